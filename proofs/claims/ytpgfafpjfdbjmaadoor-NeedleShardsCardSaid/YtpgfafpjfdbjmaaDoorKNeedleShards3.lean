/- Lemmas for the law NeedleShards, merged out of several texts and cut down to what it names, by a program of this session (some of the first ones are of the words that print.sh wrote for this claim). -/
import Derived.Deep.MidRow
import Derived.Test.YtpgfafpjfdbjmaaDoorProg
import Derived.WalkKit
import Derived.Lib.Hide
import Derived.Lib.FrozenHead2
import Derived.Lib.ConvBytes
import Derived.Laws.BytesArg
import Derived.Laws.BytesString
import Derived.Laws.IdiomStrings
import Derived.Below
import Derived.Test.YtpgfafpjfdbjmaaDoorKNeedleShards1
import Derived.Test.YtpgfafpjfdbjmaaDoorKNeedleShards2
set_option linter.unusedVariables false
set_option linter.unusedSimpArgs false
section
namespace Go.Proofs.YtpgfafpjfdbjmaaDoor
open Go.RowKit Q Go.Proofs.YtpgfafpjfdbjmaaDoorW.PrintWords Go.Proofs.YtpgfafpjfdbjmaaDoorW.PrintLast Go.Proofs.YtpgfafpjfdbjmaaDoorW.PrintMore
attribute [local go_sem] arr_set
def Row (w : World) (g : Nat) (T : TypeId) (xs : List Int) : Prop := w.heap[g]? = some (.cells (arr .u32 xs) T (0, 0))
theorem Row.cell {w : World} {g : Nat} {T : TypeId} {xs : List Int} (h : Row w g T xs) (i : Nat) (hi : i < xs.length) : w.cell? ⟨g, i, none⟩ = some (.int .u32 (xs.getD i 0)) := by
  rw [Lib.cell_of_heap h, arr_get _ _ _ hi]
theorem Row.frozen {w : World} {g : Nat} {T : TypeId} {xs : List Int} (h : Row w g T xs) (i : Nat) : w.frozen? ⟨g, i, none⟩ = false := Lib.frozen_of_heap h i
theorem Row.set {w : World} {g : Nat} {T : TypeId} {xs : List Int} (h : Row w g T xs) (i : Nat) (v : Int) : Row (w.setCell ⟨g, i, none⟩ (.int .u32 v)) g T (xs.set i v) := by
  have : w.heap[g]? = _ := h
  simp [Row, World.setCell, Array.getElem?_modify, this, arr_set]
theorem Row.other {w : World} {g g' : Nat} {T : TypeId} {xs : List Int} (h : Row w g T xs) (hne : g ≠ g') (i : Nat) (v : Value) : Row (w.setCell ⟨g', i, none⟩ v) g T xs :=
  (Below.heap_setCell _ _ _ _ (fun e => hne e)).trans h
theorem Row.alloc {w : World} {g : Nat} {T : TypeId} {xs : List Int} (h : Row w g T xs) (o : Obj) : Row (w.alloc o) g T xs :=
  (Lib.alloc_old w o g (Array.getElem?_eq_some_iff.1 h).1).trans h
theorem Row.lt {w : World} {g : Nat} {T : TypeId} {xs : List Int} (h : Row w g T xs) : g < w.heap.size := (Array.getElem?_eq_some_iff.1 h).1
theorem Row.drewN {w : World} {g : Nat} {T : TypeId} {xs : List Int} (h : Row w g T xs) (n : Nat) : Row (w.drewN n) g T xs := h
theorem Row.new (w : World) (T : TypeId) (xs : List Int) : Row (w.alloc (.cells (arr .u32 xs) T)) w.heap.size T xs := heap_alloc_new w _
theorem Row.keep {w w' : World} {g : Nat} {T : TypeId} {xs : List Int} (h : Row w g T xs) (hb : Below w.heap.size w w') : Row w' g T xs :=
  (hb.block g h.lt).trans h
theorem Row.put {w : World} {g : Nat} {T : TypeId} {xs : List Int} (h : Row w g T xs) (ys : List Int) : Row (w.setRow g (arr .u32 ys)) g T ys :=
  setRow_heap w g _ _ _ _ h
theorem Row.past {w : World} {g g' : Nat} {T : TypeId} {xs : List Int} (h : Row w g T xs) (hne : g ≠ g') (c : Array Value) : Row (w.setRow g' c) g T xs :=
  (setRow_other w g' g c hne).trans h
theorem below_setRow {B : Nat} {w w1 : World} (h : Below B w w1) {g : Nat} (hg : B ≤ g) (c : Array Value) : Below B w (w1.setRow g c) :=
  h.trans ⟨rfl, rfl, rfl, by simp [World.setRow], fun k hk => setRow_other w1 g k c (by omega)⟩
theorem alloc_run {P : Program} (ev : Operand → Value) (T : TypeId) {c : Array Value} (W : World) (hz : (zeroValue T).run P W = .ok (.agg c) W) {o : Oper} (ho : o.op = .alloc T) :
    (execOp ev o).run P W = .ok (.value (.pointer (some ⟨W.heap.size, 0, none⟩))) (W.alloc (.cells c T)) := by
  unfold execOp
  rw [ho]
  go_simp
theorem load_run {P : Program} (ev : Operand → Value) (T : TypeId) (x : Operand) {xs : List Int} (g n : Nat) (e : TypeId) (W : World) (h : Row W g T xs) (hu : P.underlying T = some (.array n e)) (hi : (P.info? T).map (·.size) = some xs.length) (hx : ev x = .pointer (some ⟨g, 0, none⟩)) {o : Oper} (ho : o.op = .load T x) :
    (execOp ev o).run P W = .ok (.value (.agg (arr .u32 xs))) W := by
  unfold execOp
  simp only [ho, hx, Instr.loadAt, Instr.sureAddr, Sem.run_bind, Sem.run_pure, Result.andThen_ok, run_loadVar_row W g T T _ _ _ h hu rfl (by rw [arr_size]; exact hi)]
theorem store_run {P : Program} (ev : Operand → Value) (T : TypeId) (x y : Operand) {xs ys : List Int} (g : Nat) (W : World) (h : Row W g T xs) (hi : (P.info? T).map (·.size) = some ys.length) (hl : xs.length = ys.length) (hx : ev x = .pointer (some ⟨g, 0, none⟩)) (hy : ev y = .agg (arr .u32 ys)) {o : Oper} (ho : o.op = .store T x y) :
    (execOp ev o).run P W = .ok .skip (W.setRow g (arr .u32 ys)) := by
  unfold execOp
  simp only [ho, hx, hy, Instr.storeAt, Instr.sureAddr, Sem.run_bind, Sem.run_pure, Result.andThen_ok, run_storeVar_row W g T T (arr .u32 xs) (arr .u32 ys) h (by rw [arr_size .u32 ys]; exact hi) (by rw [arr_size .u32 xs, arr_size .u32 ys]; exact hl) (arr_one _ _)]
theorem copy_shift (w : World) (T : TypeId) (gb : Nat) (a b c d e f g h : Int) (hr : Row w gb T [a, b, c, d, e, f, g, h]) :
    (Builtin.copy_ #[92, 92] 3 #[.slice (some ⟨gb, 1, none⟩) 7 7, .slice (some ⟨gb, 0, none⟩) 7 8]).run Tryd.prog w = .ok (.int .i64 7) (w.setRow gb (arr .u32 [a, a, b, c, d, e, f, g])) := by
  have := run_copy_row (P := Tryd.prog) w 92 92 3 91 gb 1 7 7 ⟨gb, 0, none⟩ 7 8 (arr .u32 [a, b, c, d, e, f, g, h]) T [.int .u32 a, .int .u32 b, .int .u32 c, .int .u32 d, .int .u32 e, .int .u32 f, .int .u32 g]
    Tryd.underlying92 (by kernel_rfl) hr rfl (fun j v hv => by
      have hadd : (⟨gb, 0, none⟩ : Addr).add j = ⟨gb, j, none⟩ := by unfold Addr.add; split <;> simp_all
      rw [hadd, Lib.cell_of_heap hr]
      match j, hv with
      | 0, hv => exact hv
      | 1, hv => exact hv
      | 2, hv => exact hv
      | 3, hv => exact hv
      | 4, hv => exact hv
      | 5, hv => exact hv
      | 6, hv => exact hv
      | k + 7, hv => simp at hv) (by simp [arr]) (by intro v hv; simp at hv; rcases hv with rfl | rfl | rfl | rfl | rfl | rfl | rfl <;> rfl)
  exact this
theorem blk_eq (K : List Int) (x xv : V8) (b : ByteArray) (WL : List Int) (i j : Nat) (hi : i = 64) (hW : wl b i = WL) (hj : j = 64) (hx : cv x K WL j = xv) : ad x.l xv.l 8 = blk K x b := by
  subst hi hj hW hx
  rfl
set_option maxRecDepth 100000 in
set_option maxHeartbeats 8000000 in
theorem block_calls (s0 s1 s2 s3 s4 s5 s6 s7 : Int) (b : ByteArray) (hb : b.size = 64) (R : List Int) (hres : Hid (blk KL ⟨s0, s1, s2, s3, s4, s5, s6, s7⟩ b = R)) (w : World) :
    Calls Tryd.prog 73 #[.agg (arr .u32 [s0, s1, s2, s3, s4, s5, s6, s7]), .string b] w fun e w' => e = .returned (.agg (arr .u32 R)) ∧ Below w.heap.size w w' := by
  have hz := zero64
  have hz8 := zero8
  go_enter Tryd.func73, Tryd.ntmps73
  go_wp2_with fail
  go_loopw [6, 18] (fun _ n wr => ∃ i : Nat, i ≤ 64 ∧ n = .int .i64 i ∧ Aside0 (Row wr w.heap.size 115 [s0, s1, s2, s3, s4, s5, s6, s7]) ∧ Aside0 (Row wr (w.heap.size + 1) 115 (zs 8)) ∧ Aside0 (Row wr (w.heap.size + 1 + 1) 132 (wl b i)) ∧ Aside0 (Below w.heap.size w wr)) (fun _ n _ => 64 - (intOf n).toNat)
  case atStart =>
    refine ⟨0, by omega, rfl, ⟨((Row.new w _ _).alloc _).alloc _⟩, ⟨?_⟩, ⟨?_⟩, ⟨(((Below.refl _ _).alloc (Nat.le_refl _) _).alloc (by simp) _).alloc (by simp; omega) _⟩⟩
    · have := (Row.new (w.alloc (.cells (arr .u32 [s0, s1, s2, s3, s4, s5, s6, s7]) 115)) 115 (zs 8)).alloc (.cells (arr .u32 (zs 64)) 132)
      simpa using this
    · have := Row.new ((w.alloc (.cells (arr .u32 [s0, s1, s2, s3, s4, s5, s6, s7]) 115)).alloc (.cells (arr .u32 (zs 8)) 115)) 132 (zs 64)
      simp only [World.size_alloc] at this
      exact this
  case round =>
    obtain ⟨i, hi, rfl, HS, HR, HW, HBl⟩ := hrel
    by_cases hlt : i < 64
    · by_cases h16 : i < 16
      · go_wp2_with fail
        go_loopw [7, 23] (fun _ n wr => ∃ j : Nat, j ≤ 4 ∧ n = .int .i64 j ∧ Aside0 (Row wr w.heap.size 115 [s0, s1, s2, s3, s4, s5, s6, s7]) ∧ Aside0 (Row wr (w.heap.size + 1) 115 (zs 8)) ∧ Aside0 (Row wr (w.heap.size + 1 + 1) 132 ((wl b i).set i (acc b i j))) ∧ Aside0 (Below w.heap.size w wr)) (fun _ n _ => 4 - (intOf n).toNat)
        case atStart => exact ⟨0, by omega, rfl, HS, HR, ⟨by rw [acc, wl_set_zero b i hlt]; exact HW.out⟩, HBl⟩
        case round =>
          clear HS HR HW HBl
          obtain ⟨j, hj, rfl, HS, HR, HW, HBl⟩ := hrel
          by_cases hj4 : j < 4
          · have hc := HW.out.cell i (by rw [List.length_set, wl_len]; exact hlt)
            have hf := HW.out.frozen i
            have hv : ((wl b i).set i (acc b i j)).getD i 0 = acc b i j := by
              rw [List.getD_eq_getElem?_getD, List.getElem?_set, if_pos rfl, wl_len, if_pos hlt]; rfl
            rw [hv] at hc
            clear hv
            have hidx : (4 * (i : Int) + (j : Int)).toNat = 4 * i + j := by omega
            have hw1 : IntKind.i64.wrap (4 * (i : Int)) = 4 * (i : Int) := IntWalk.i64_in _ (by omega)
            have hw2 : IntKind.i64.wrap (4 * (i : Int) + (j : Int)) = 4 * (i : Int) + (j : Int) := IntWalk.i64_in _ (by omega)
            have hix := index_at b (4 * (i : Int) + (j : Int)) (4 * i + j) (by omega) (by omega)
            have hbr := byteAt_rng b (4 * i + j)
            have hbm : byteAt b (4 * i + j) % 4294967296 = byteAt b (4 * i + j) := Int.emod_eq_of_lt (by omega) (by omega)
            go_wp2_with fail
            refine region_quiet_tail 14 (by kernel_rfl) (by kernel_rfl) ?_
            simp only [List.take_succ_cons, List.take_zero, List.drop_succ_cons, List.drop_zero]
            repeat (go_big_quiet_step (fail))
            refine wpQuiet_nil ?_
            intro _ hw'
            obtain ⟨nq, rfl⟩ := hw'
            have HS := Aside0.mk (HS.out.drewN nq)
            have HR := Aside0.mk (HR.out.drewN nq)
            have HBl := Aside0.mk (pw_below_drewN HBl.out nq)
            have hW := HW.out.drewN nq
            have hf : (wr.drewN nq).frozen? ⟨w.heap.size + 1 + 1, i, none⟩ = false := hW.frozen i
            have hc : (wr.drewN nq).cell? ⟨w.heap.size + 1 + 1, i, none⟩ = some (.int .u32 (acc b i j)) := hc
            have HW := Aside0.mk hW
            clear hW
            generalize wr.drewN nq = wr at *
            go_wp2
            go_roundw
            case rel =>
              refine ⟨j + 1, by omega, by go_num, ⟨HS.out.other (by omega) _ _⟩, ⟨HR.out.other (by omega) _ _⟩, ⟨?_⟩, ⟨HBl.out.setCell (by simp; omega) _⟩⟩
              have := HW.out.set i (acc b i (j + 1))
              rw [List.set_set] at this
              exact this
            case measure => simp [intOf]; omega
          · obtain rfl : j = 4 := by omega
            go_wp2
            go_roundw
            case rel =>
              refine ⟨i + 1, by omega, by go_num, HS, HR, ⟨?_⟩, HBl⟩
              have := HW.out
              rw [wl, wAt, if_pos h16]
              exact this
            case measure => simp [intOf]; omega
      · obtain ⟨m16, h16'⟩ : ∃ m : Nat, m + 16 = i := ⟨i - 16, by omega⟩
        obtain ⟨m15, h15⟩ : ∃ m : Nat, m + 15 = i := ⟨i - 15, by omega⟩
        obtain ⟨m7, h7⟩ : ∃ m : Nat, m + 7 = i := ⟨i - 7, by omega⟩
        obtain ⟨m2, h2⟩ : ∃ m : Nat, m + 2 = i := ⟨i - 2, by omega⟩
        have w16 : IntKind.i64.wrap ((i : Int) - 16) = (m16 : Int) := by rw [IntWalk.i64_in _ (by omega)]; omega
        have w15 : IntKind.i64.wrap ((i : Int) - 15) = (m15 : Int) := by rw [IntWalk.i64_in _ (by omega)]; omega
        have w7 : IntKind.i64.wrap ((i : Int) - 7) = (m7 : Int) := by rw [IntWalk.i64_in _ (by omega)]; omega
        have w2 : IntKind.i64.wrap ((i : Int) - 2) = (m2 : Int) := by rw [IntWalk.i64_in _ (by omega)]; omega
        have hL := wl_len b i
        have c16 := HW.out.cell m16 (by omega)
        have c15 := HW.out.cell m15 (by omega)
        have c7 := HW.out.cell m7 (by omega)
        have c2 := HW.out.cell m2 (by omega)
        have hci := HW.out.cell i (by omega)
        have HE : Hid (wAt b (wl b i) i = ((wl b i).getD m16 0 + (wl b i).getD m7 0 + sg0 ((wl b i).getD m15 0) + sg1 ((wl b i).getD m2 0)) % 4294967296) := Lib.hid (by
          unfold wAt
          rw [if_neg h16, show i - 16 = m16 by omega, show i - 7 = m7 by omega, show i - 15 = m15 by omega, show i - 2 = m2 by omega])
        have g16 : (m16 : Int) < 64 := by omega
        have g15 : (m15 : Int) < 64 := by omega
        have g7 : (m7 : Int) < 64 := by omega
        have g2 : (m2 : Int) < 64 := by omega
        have gi : (i : Int) < 64 := by omega
        clear h16' h15 h7 h2 hL
        generalize (wl b i).getD m16 0 = x16 at c16 HE
        generalize (wl b i).getD m15 0 = x15 at c15 HE
        generalize (wl b i).getD m7 0 = x7 at c7 HE
        generalize (wl b i).getD m2 0 = x2 at c2 HE
        generalize (wl b i).getD i 0 = xi at hci
        go_wp2_with fail
        go_quiet (fail)
        have HS := Aside0.mk (HS.out.drewN nq)
        have HR := Aside0.mk (HR.out.drewN nq)
        have HBl := Aside0.mk (pw_below_drewN HBl.out nq)
        have HW := Aside0.mk (HW.out.drewN nq)
        have c16 : (wr.drewN nq).cell? _ = _ := c16
        have c7 : (wr.drewN nq).cell? _ = _ := c7
        have hci : (wr.drewN nq).cell? _ = _ := hci
        clear c15 c2
        generalize wr.drewN nq = wr at *
        go_wp2_with fail
        refine region_quiet_tail 29 (by kernel_rfl) (by kernel_rfl) ?_
        simp only [List.take_succ_cons, List.take_zero, List.drop_succ_cons, List.drop_zero]
        repeat (go_big_quiet_step (exact right_q _ _ (by decide) (by decide) _ _))
        refine wpQuiet_nil ?_
        intro _ hw'
        obtain ⟨nq, rfl⟩ := hw'
        have HS := Aside0.mk (HS.out.drewN nq)
        have HR := Aside0.mk (HR.out.drewN nq)
        have HBl := Aside0.mk (pw_below_drewN HBl.out nq)
        have hW := HW.out.drewN nq
        have hf : (wr.drewN nq).frozen? ⟨w.heap.size + 1 + 1, i, none⟩ = false := hW.frozen i
        have hci : (wr.drewN nq).cell? _ = _ := hci
        have HW := Aside0.mk hW
        clear hW c16 c7
        generalize wr.drewN nq = wr at *
        go_wp2
        go_roundw
        case rel =>
          refine ⟨i + 1, by omega, by go_num, ⟨HS.out.other (by omega) _ _⟩, ⟨HR.out.other (by omega) _ _⟩, ⟨?_⟩, ⟨HBl.out.setCell (by simp; omega) _⟩⟩
          have := HW.out.set i (wAt b (wl b i) i)
          rw [HE.out] at this
          rw [wl, HE.out]
          exact this
        case measure => simp [intOf]; omega
    · have hge : 64 ≤ i := by omega
      have hi64 : Hid (i = 64) := Lib.hid (by omega)
      clear hi hlt
      have hWL := wl_len b i
      generalize hwle : wl b i = WL at HW hWL
      have hWLe : Hid (wl b i = WL) := Lib.hid hwle
      clear hwle
      go_wp2_with fail
      refine start_ (n := 6) (S := fun w' => Row w' w.heap.size 115 [s0, s1, s2, s3, s4, s5, s6, s7]) (ds := []) #[false, false, false, false, false, false] (by kernel_rfl) rfl rfl HS.out (fun hHeld => ?_)
      have HS := Aside0.mk (HS.out.drewN 1)
      have HR := Aside0.mk (HR.out.drewN 1)
      have HW := Aside0.mk (HW.out.drewN 1)
      have HBl := Aside0.mk (pw_below_drewN HBl.out 1)
      change wpAnyLast _ _ _ _ _ _ _ _ _ (wr.drewN 1)
      change Row (wr.drewN 1) _ _ _ at hHeld
      generalize wr.drewN 1 = wr at *
      refine take_ (i := 0) (N := some 79) (v := .agg (arr .u32 [s0, s1, s2, s3, s4, s5, s6, s7])) (a' := ?_) #[true, false, false, false, false, false] rfl rfl (by kernel_rfl) (fun _ _ _ h => h) (Or.inl ⟨by rfl, fun w' hw' => load_run _ 115 (.tmp 2) w.heap.size _ _ w' hw' Tryd.underlying115 size8 rfl rfl⟩) hHeld ?_ ?_
      rotate_left
      · simp only [Act.put, List.setIfInBounds_toArray, List.set_cons_zero, List.set_cons_succ]
        rfl
      clear hHeld
      refine join_ 2 #[true, true, true, true, false, false] (fun s : Nat × Nat => [(80, .agg (arr .u32 KL)), (10, .pointer (some ⟨s.1, 0, none⟩)), (11, .pointer (some ⟨s.2, 0, none⟩))]) (fun s w' => Row w' w.heap.size 115 [s0, s1, s2, s3, s4, s5, s6, s7] ∧ Row w' (w.heap.size + 1) 115 (zs 8) ∧ Row w' (w.heap.size + 1 + 1) 132 WL ∧ Row w' s.1 115 (zs 8) ∧ Row w' s.2 132 (zs 64) ∧ s.1 ≠ s.2 ∧ w.heap.size + 1 + 1 < s.1 ∧ w.heap.size + 1 + 1 < s.2 ∧ Below w.heap.size w w') ?_ (fun hcont => ?_)
      · rintro ⟨g10, g11⟩ wr ⟨hs, hr, hw, h10, h11, hne, hl10, hl11, hbl⟩
        refine norm_ (a' := ?_) ?_ ?_
        rotate_left
        · simp only [putAll, Act.put, List.setIfInBounds_toArray, List.set_cons_zero, List.set_cons_succ]
          rfl
        refine one_ (i := 4) (N := none) #[true, true, true, true, true, false] rfl rfl (by kernel_rfl) (by decide) (fun K hK => ?_)
        refine skip_ (by rfl) rfl (store_run _ 115 (.tmp 10) (.tmp 79) g10 _ h10 (ys := [s0, s1, s2, s3, s4, s5, s6, s7]) size8 rfl rfl rfl rfl) ?_
        refine hK.out _ _ (hs.past (by omega) _) (fun _ => ?_)
        clear hK K
        refine one_ (i := 5) (N := none) #[true, true, true, true, true, true] rfl rfl (by kernel_rfl) (by decide) (fun K hK => ?_)
        refine skip_ (by rfl) rfl (store_run _ 132 (.tmp 11) (.tmp 80) g11 _ (h11.past (by omega) _) (ys := KL) (by rw [KL_len]; exact size64) (by rw [KL_len, zs_len]) rfl rfl rfl) ?_
        refine hK.out _ _ ((hs.past (by omega) _).past (by omega) _) (fun _ => ?_)
        clear hK K
        refine done_ (by kernel_rfl) ?_
        have HS := Aside0.mk ((hs.past (show w.heap.size ≠ g10 by omega) (arr .u32 [s0, s1, s2, s3, s4, s5, s6, s7])).past (show w.heap.size ≠ g11 by omega) (arr .u32 KL))
        have HR := Aside0.mk ((hr.past (show w.heap.size + 1 ≠ g10 by omega) (arr .u32 [s0, s1, s2, s3, s4, s5, s6, s7])).past (show w.heap.size + 1 ≠ g11 by omega) (arr .u32 KL))
        have HW := Aside0.mk ((hw.past (show w.heap.size + 1 + 1 ≠ g10 by omega) (arr .u32 [s0, s1, s2, s3, s4, s5, s6, s7])).past (show w.heap.size + 1 + 1 ≠ g11 by omega) (arr .u32 KL))
        have HV := Aside0.mk ((h10.put [s0, s1, s2, s3, s4, s5, s6, s7]).past hne (arr .u32 KL))
        have HK := Aside0.mk ((h11.past (Ne.symm hne) (arr .u32 [s0, s1, s2, s3, s4, s5, s6, s7])).put KL)
        have HBl := Aside0.mk (below_setRow (below_setRow hbl (show w.heap.size ≤ g10 by omega) (arr .u32 [s0, s1, s2, s3, s4, s5, s6, s7])) (show w.heap.size ≤ g11 by omega) (arr .u32 KL))
        clear hs hr hw h10 h11 hbl
        generalize (wr.setRow g10 (arr .u32 [s0, s1, s2, s3, s4, s5, s6, s7])).setRow g11 (arr .u32 KL) = wr at *
        go_wp2_with fail
        go_loopw [12, 81] (fun _ n wr => ∃ i : Nat, i ≤ 64 ∧ n = .int .i64 i ∧ Aside0 (Row wr w.heap.size 115 [s0, s1, s2, s3, s4, s5, s6, s7]) ∧ Aside0 (Row wr (w.heap.size + 1) 115 (zs 8)) ∧ Aside0 (Row wr (w.heap.size + 1 + 1) 132 WL) ∧ Aside0 (Row wr g10 115 (cv ⟨s0, s1, s2, s3, s4, s5, s6, s7⟩ KL WL i).l) ∧ Aside0 (Row wr g11 132 KL) ∧ Aside0 (Below w.heap.size w wr)) (fun _ n _ => 64 - (intOf n).toNat)
        case atStart => exact ⟨0, by omega, rfl, HS, HR, HW, HV, HK, HBl⟩
        case round =>
          clear HS HR HW HV HK HBl
          obtain ⟨i, hi, rfl, HS, HR, HW, HV, HK, HBl⟩ := hrel
          by_cases hlt : i < 64
          · have hR : Hid (stp (cv ⟨s0, s1, s2, s3, s4, s5, s6, s7⟩ KL WL i) (KL.getD i 0) (WL.getD i 0) = cv ⟨s0, s1, s2, s3, s4, s5, s6, s7⟩ KL WL (i + 1)) := Lib.hid rfl
            have ck := HK.out.cell i (by rw [KL_len]; exact hlt)
            have cw := HW.out.cell i (by rw [hWL]; exact hlt)
            generalize KL.getD i 0 = kk at ck hR
            generalize WL.getD i 0 = ww at cw hR
            generalize cv ⟨s0, s1, s2, s3, s4, s5, s6, s7⟩ KL WL i = x at HV hR
            obtain ⟨a, b', c, d, e, f, g, h⟩ := x
            have c0 : wr.cell? ⟨g10, 0, none⟩ = some (.int .u32 a) := HV.out.cell 0 (by simp [V8.l])
            have c1 : wr.cell? ⟨g10, 1, none⟩ = some (.int .u32 b') := HV.out.cell 1 (by simp [V8.l])
            have c2 : wr.cell? ⟨g10, 2, none⟩ = some (.int .u32 c) := HV.out.cell 2 (by simp [V8.l])
            have c3 : wr.cell? ⟨g10, 3, none⟩ = some (.int .u32 d) := HV.out.cell 3 (by simp [V8.l])
            have c4 : wr.cell? ⟨g10, 4, none⟩ = some (.int .u32 e) := HV.out.cell 4 (by simp [V8.l])
            have c5 : wr.cell? ⟨g10, 5, none⟩ = some (.int .u32 f) := HV.out.cell 5 (by simp [V8.l])
            have c6 : wr.cell? ⟨g10, 6, none⟩ = some (.int .u32 g) := HV.out.cell 6 (by simp [V8.l])
            have c7 : wr.cell? ⟨g10, 7, none⟩ = some (.int .u32 h) := HV.out.cell 7 (by simp [V8.l])
            go_wp2_with fail
            go_quiet (fail)
            have HS := Aside0.mk (HS.out.drewN nq)
            have HR := Aside0.mk (HR.out.drewN nq)
            have HW := Aside0.mk (HW.out.drewN nq)
            have HV := Aside0.mk (HV.out.drewN nq)
            have HK := Aside0.mk (HK.out.drewN nq)
            have HBl := Aside0.mk (pw_below_drewN HBl.out nq)
            have c0 : (wr.drewN nq).cell? _ = _ := c0
            have c1 : (wr.drewN nq).cell? _ = _ := c1
            have c2 : (wr.drewN nq).cell? _ = _ := c2
            have c3 : (wr.drewN nq).cell? _ = _ := c3
            have c4 : (wr.drewN nq).cell? _ = _ := c4
            have c5 : (wr.drewN nq).cell? _ = _ := c5
            have c6 : (wr.drewN nq).cell? _ = _ := c6
            have c7 : (wr.drewN nq).cell? _ = _ := c7
            have ck : (wr.drewN nq).cell? _ = _ := ck
            have cw : (wr.drewN nq).cell? _ = _ := cw
            generalize wr.drewN nq = wr at *
            go_wp2_with fail
            go_quiet (exact right_q _ _ (by decide) (by decide) _ _)
            have HS := Aside0.mk (HS.out.drewN nq)
            have HR := Aside0.mk (HR.out.drewN nq)
            have HW := Aside0.mk (HW.out.drewN nq)
            have HV := Aside0.mk (HV.out.drewN nq)
            have HK := Aside0.mk (HK.out.drewN nq)
            have HBl := Aside0.mk (pw_below_drewN HBl.out nq)
            have c0 : (wr.drewN nq).cell? _ = _ := c0
            have c1 : (wr.drewN nq).cell? _ = _ := c1
            have c2 : (wr.drewN nq).cell? _ = _ := c2
            have c3 : (wr.drewN nq).cell? _ = _ := c3
            have c4 : (wr.drewN nq).cell? _ = _ := c4
            have c5 : (wr.drewN nq).cell? _ = _ := c5
            have c6 : (wr.drewN nq).cell? _ = _ := c6
            have c7 : (wr.drewN nq).cell? _ = _ := c7
            generalize wr.drewN nq = wr at *
            rw [show ((h + Go.bits .xor .u32 (Go.bits .xor .u32 (rr e 6) (rr e 11)) (rr e 25) + Go.bits .xor .u32 g (Go.bits .and .u32 e (Go.bits .xor .u32 f g)) + kk) % 4294967296 + ww) % 4294967296 = tt e f g h kk ww from rfl]
            have HT : Hid (stp ⟨a, b', c, d, e, f, g, h⟩ kk ww = ⟨(tt e f g h kk ww + uu a b' c) % 4294967296, a, b', c, (d + tt e f g h kk ww) % 4294967296, e, f, g⟩) := Lib.hid rfl
            generalize tt e f g h kk ww = t at *
            go_wp2_with fail
            go_quiet (exact right_q _ _ (by decide) (by decide) _ _)
            have HS := Aside0.mk (HS.out.drewN nq)
            have HR := Aside0.mk (HR.out.drewN nq)
            have HW := Aside0.mk (HW.out.drewN nq)
            have HV := Aside0.mk (HV.out.drewN nq)
            have HK := Aside0.mk (HK.out.drewN nq)
            have HBl := Aside0.mk (pw_below_drewN HBl.out nq)
            have c0 : (wr.drewN nq).cell? _ = _ := c0
            have c1 : (wr.drewN nq).cell? _ = _ := c1
            have c2 : (wr.drewN nq).cell? _ = _ := c2
            have c3 : (wr.drewN nq).cell? _ = _ := c3
            have c4 : (wr.drewN nq).cell? _ = _ := c4
            have c5 : (wr.drewN nq).cell? _ = _ := c5
            have c6 : (wr.drewN nq).cell? _ = _ := c6
            have c7 : (wr.drewN nq).cell? _ = _ := c7
            generalize wr.drewN nq = wr at *
            rw [show (Go.bits .xor .u32 (Go.bits .xor .u32 (rr a 2) (rr a 13)) (rr a 22) + Go.bits .or .u32 (Go.bits .and .u32 a b') (Go.bits .and .u32 c (Go.bits .or .u32 a b'))) % 4294967296 = uu a b' c from rfl]
            generalize uu a b' c = u at *
            have f0 := HV.out.frozen 0
            have f1 := HV.out.frozen 1
            have f2 := HV.out.frozen 2
            have f3 := HV.out.frozen 3
            have f4 := HV.out.frozen 4
            have f5 := HV.out.frozen 5
            have f6 := HV.out.frozen 6
            have f7 := HV.out.frozen 7
            go_wp2_with fail
            refine region_quiet_tail 2 (by kernel_rfl) (by kernel_rfl) ?_
            simp only [List.take_succ_cons, List.take_zero, List.drop_succ_cons, List.drop_zero]
            repeat (go_big_quiet_step (fail))
            refine wpQuiet_nil ?_
            intro _ hw'
            obtain ⟨nq, rfl⟩ := hw'
            have f0 : (wr.drewN nq).frozen? _ = false := f0
            have f1 : (wr.drewN nq).frozen? _ = false := f1
            have f2 : (wr.drewN nq).frozen? _ = false := f2
            have f3 : (wr.drewN nq).frozen? _ = false := f3
            have f4 : (wr.drewN nq).frozen? _ = false := f4
            have f5 : (wr.drewN nq).frozen? _ = false := f5
            have f6 : (wr.drewN nq).frozen? _ = false := f6
            have f7 : (wr.drewN nq).frozen? _ = false := f7
            have HS := Aside0.mk (HS.out.drewN nq)
            have HR := Aside0.mk (HR.out.drewN nq)
            have HW := Aside0.mk (HW.out.drewN nq)
            have HV := Aside0.mk (HV.out.drewN nq)
            have HK := Aside0.mk (HK.out.drewN nq)
            have HBl := Aside0.mk (pw_below_drewN HBl.out nq)
            have c0 : (wr.drewN nq).cell? _ = _ := c0
            have c1 : (wr.drewN nq).cell? _ = _ := c1
            have c2 : (wr.drewN nq).cell? _ = _ := c2
            have c3 : (wr.drewN nq).cell? _ = _ := c3
            have c4 : (wr.drewN nq).cell? _ = _ := c4
            have c5 : (wr.drewN nq).cell? _ = _ := c5
            have c6 : (wr.drewN nq).cell? _ = _ := c6
            have c7 : (wr.drewN nq).cell? _ = _ := c7
            generalize wr.drewN nq = wr at *
            have hcp := copy_shift wr _ g10 a b' c d e f g h HV.out
            have HS := Aside0.mk (HS.out.past (show w.heap.size ≠ g10 by omega) (arr .u32 [a, a, b', c, d, e, f, g]))
            have HR := Aside0.mk (HR.out.past (show w.heap.size + 1 ≠ g10 by omega) (arr .u32 [a, a, b', c, d, e, f, g]))
            have HW := Aside0.mk (HW.out.past (show w.heap.size + 1 + 1 ≠ g10 by omega) (arr .u32 [a, a, b', c, d, e, f, g]))
            have HK := Aside0.mk (HK.out.past (Ne.symm hne) (arr .u32 [a, a, b', c, d, e, f, g]))
            have HBl := Aside0.mk (below_setRow HBl.out (show w.heap.size ≤ g10 by omega) (arr .u32 [a, a, b', c, d, e, f, g]))
            have HV := Aside0.mk (HV.out.put [a, a, b', c, d, e, f, g])
            clear c0 c1 c2 c3 c4 c5 c6 c7 f0 f1 f2 f3 f4 f5 f6 f7
            generalize hw2 : wr.setRow g10 (arr .u32 [a, a, b', c, d, e, f, g]) = w2 at *
            clear hw2
            have c0 : w2.cell? ⟨g10, 0, none⟩ = some (.int .u32 a) := HV.out.cell 0 (by simp)
            have c4 : w2.cell? ⟨g10, 4, none⟩ = some (.int .u32 d) := HV.out.cell 4 (by simp)
            have f0 := HV.out.frozen 0
            have f4 := HV.out.frozen 4
            go_wp2
            go_roundw
            case rel =>
              refine ⟨i + 1, by omega, by go_num, ⟨(HS.out.other (by omega) _ _).other (by omega) _ _⟩, ⟨(HR.out.other (by omega) _ _).other (by omega) _ _⟩, ⟨(HW.out.other (by omega) _ _).other (by omega) _ _⟩, ⟨?_⟩, ⟨(HK.out.other (Ne.symm hne) _ _).other (Ne.symm hne) _ _⟩, ⟨(HBl.out.setCell (by simp; omega) _).setCell (by simp; omega) _⟩⟩
              rw [← hR.out]
              rw [HT.out]
              exact (HV.out.set 0 _).set 4 _
            case measure => simp [intOf]; omega
          · have hge2 : 64 ≤ i := by omega
            have hi642 : Hid (i = 64) := Lib.hid (by omega)
            generalize hxv0 : cv ⟨s0, s1, s2, s3, s4, s5, s6, s7⟩ KL WL i = xv at HV
            have hxv := Lib.hid hxv0
            clear hxv0
            have hvl : xv.l.length = 8 := rfl
            clear HK HW
            go_wp2_with fail
            go_loopw [17, 152] (fun _ n wr => ∃ i : Nat, i ≤ 8 ∧ n = .int .i64 i ∧ Aside0 (Row wr w.heap.size 115 (ad [s0, s1, s2, s3, s4, s5, s6, s7] xv.l i)) ∧ Aside0 (Row wr (w.heap.size + 1) 115 (zs 8)) ∧ Aside0 (Row wr g10 115 xv.l) ∧ Aside0 (Below w.heap.size w wr)) (fun _ n _ => 8 - (intOf n).toNat)
            case atStart => exact ⟨0, by omega, rfl, HS, HR, HV, HBl⟩
            case round =>
              clear HS HR HV HBl
              obtain ⟨i, hi, rfl, HS, HR, HV, HBl⟩ := hrel
              have hsl : (ad [s0, s1, s2, s3, s4, s5, s6, s7] xv.l i).length = 8 := ad_len _ _ _
              by_cases hlt : i < 8
              · have hA : Hid ((ad [s0, s1, s2, s3, s4, s5, s6, s7] xv.l i).set i (((ad [s0, s1, s2, s3, s4, s5, s6, s7] xv.l i).getD i 0 + xv.l.getD i 0) % 4294967296) = ad [s0, s1, s2, s3, s4, s5, s6, s7] xv.l (i + 1)) := Lib.hid rfl
                have c1 := HS.out.cell i (by omega)
                have c2 := HV.out.cell i (by omega)
                have f1 := HS.out.frozen i
                generalize ad [s0, s1, s2, s3, s4, s5, s6, s7] xv.l i = az at *
                generalize az.getD i 0 = p1 at c1 hA
                generalize xv.l.getD i 0 = p2 at c2 hA
                go_wp2_with fail
                refine region_quiet_tail 8 (by kernel_rfl) (by kernel_rfl) ?_
                simp only [List.take_succ_cons, List.take_zero, List.drop_succ_cons, List.drop_zero]
                repeat (go_big_quiet_step (fail))
                refine wpQuiet_nil ?_
                intro _ hw'
                obtain ⟨nq, rfl⟩ := hw'
                have HS := Aside0.mk (HS.out.drewN nq)
                have HR := Aside0.mk (HR.out.drewN nq)
                have HV := Aside0.mk (HV.out.drewN nq)
                have HBl := Aside0.mk (pw_below_drewN HBl.out nq)
                have c1 : (wr.drewN nq).cell? _ = _ := c1
                have f1 : (wr.drewN nq).frozen? _ = false := f1
                clear c2
                generalize wr.drewN nq = wr at *
                go_wp2
                go_roundw
                case rel =>
                  refine ⟨i + 1, by omega, by go_num, ⟨?_⟩, ⟨HR.out.other (by omega) _ _⟩, ⟨HV.out.other (by omega) _ _⟩, ⟨HBl.out.setCell (by simp) _⟩⟩
                  rw [← hA.out]
                  exact HS.out.set i _
                case measure => simp [intOf]; omega
              · obtain rfl : i = 8 := by omega
                have hE : Hid (ad [s0, s1, s2, s3, s4, s5, s6, s7] xv.l 8 = blk KL ⟨s0, s1, s2, s3, s4, s5, s6, s7⟩ b) := Lib.hid (blk_eq _ _ _ _ _ _ _ hi64.out hWLe.out hi642.out hxv.out)
                generalize ad [s0, s1, s2, s3, s4, s5, s6, s7] xv.l 8 = az at *
                go_wp2_with (first | (refine gate_ (.load 115 (.tmp 2)) rfl ?_; refine wpList_load_row rfl 115 (.tmp 2) rfl w.heap.size rfl _ (arr .u32 az) (0, 0) _ HS.out Tryd.underlying115 rfl (by rw [arr_size, hsl]; exact size8) ?_; simp only [Act.put, List.setIfInBounds_toArray, List.set_cons_zero, List.set_cons_succ]) | (refine gate_ (.store 115 (.tmp 4) (.tmp 164)) rfl ?_; refine wpList_plain rfl (fun K hK => ?_); refine wp_store_row 115 (.tmp 4) (.tmp 164) rfl (w.heap.size + 1) (arr .u32 az) rfl rfl 115 (arr .u32 (zs 8)) HR.out (by rw [arr_size, hsl]; exact size8) (by rw [arr_size, arr_size, hsl, zs_len]) (arr_one _ _) (hK _ _ ?_); clear hK K))
                refine bodyPost_ret (results_cell_row rfl _ _ (w.heap.size + 1) 115 (arr .u32 az) (0, 0) _ rfl (HR.out.put az) Tryd.underlying115 rfl (by rw [arr_size, hsl]; exact size8)) rfl ⟨by rw [hE.out, hres.out], below_setRow HBl.out (by omega) _⟩
      · refine three_ (i := 1) (Ni := some 80) (j := 2) (Nj := some 10) (k := 3) (Nk := some 11) #[true, true, false, false, false, false] #[true, false, true, false, false, false] #[true, false, false, true, false, false] rfl rfl rfl rfl rfl rfl (by kernel_rfl) (by decide) (by decide) (by decide) (fun K hK => ?_) (fun K hK => ?_) (fun K hK => ?_)
        · refine goes_ Tryd.func87 (by kernel_rfl) rfl #[] (by rfl) rfl rfl (by simp) ?_
          refine (constants_calls _).mono ?_
          rintro e wn ⟨rfl, hb⟩
          refine ⟨_, rfl, ?_⟩
          have HS := Aside0.mk (HS.out.keep hb)
          have HR := Aside0.mk (HR.out.keep hb)
          have HW := Aside0.mk (HW.out.keep hb)
          have HBl := Aside0.mk (below2 HBl.out HBl.out.size hb)
          clear hb
          refine hK.out _ _ HS.out (fun _ => ?_)
          clear hK K
          refine two_ (i := 2) (Ni := some 10) (j := 3) (Nj := some 11) #[true, true, true, false, false, false] #[true, true, false, true, false, false] rfl rfl rfl rfl (by kernel_rfl) (by decide) (by decide) (fun K hK => ?_) (fun K hK => ?_)
          · refine value_ (by rfl) rfl (alloc_run _ 115 _ (hz8 _) rfl) ?_
            have G10 := Aside0.mk (Row.new wn 115 (zs 8))
            have q10 : w.heap.size + 1 + 1 < wn.heap.size := HW.out.lt
            generalize hg10 : wn.heap.size = g10 at G10 q10 ⊢
            have HS := Aside0.mk (HS.out.alloc (.cells (arr .u32 (zs 8)) 115))
            have HR := Aside0.mk (HR.out.alloc (.cells (arr .u32 (zs 8)) 115))
            have HW := Aside0.mk (HW.out.alloc (.cells (arr .u32 (zs 8)) 115))
            have HBl := Aside0.mk (below_alloc HBl.out (.cells (arr .u32 (zs 8)) 115))
            generalize wn.alloc (.cells (arr .u32 (zs 8)) 115) = wn at *
            refine hK.out _ _ HS.out (fun _ => ?_)
            clear hK K
            refine one_ (i := 3) (N := some 11) #[true, true, true, true, false, false] rfl rfl (by kernel_rfl) (by decide) (fun K hK => ?_)
            refine value_ (by rfl) rfl (alloc_run _ 132 _ (hz _) rfl) ?_
            have G11 := Aside0.mk (Row.new wn 132 (zs 64))
            have q11 : w.heap.size + 1 + 1 < wn.heap.size := HW.out.lt
            have q1011 : g10 < wn.heap.size := G10.out.lt
            generalize hg11 : wn.heap.size = g11 at G11 q11 q1011 ⊢
            have HS := Aside0.mk (HS.out.alloc (.cells (arr .u32 (zs 64)) 132))
            have HR := Aside0.mk (HR.out.alloc (.cells (arr .u32 (zs 64)) 132))
            have HW := Aside0.mk (HW.out.alloc (.cells (arr .u32 (zs 64)) 132))
            have G10 := Aside0.mk (G10.out.alloc (.cells (arr .u32 (zs 64)) 132))
            have HBl := Aside0.mk (below_alloc HBl.out (.cells (arr .u32 (zs 64)) 132))
            generalize wn.alloc (.cells (arr .u32 (zs 64)) 132) = wn at *
            refine hK.out _ _ HS.out (fun _ => ?_)
            clear hK K
            exact norm_ rfl (hcont (g10, g11) _ ⟨HS.out, HR.out, HW.out, G10.out, G11.out, by omega, by omega, by omega, HBl.out⟩)
          · refine value_ (by rfl) rfl (alloc_run _ 132 _ (hz _) rfl) ?_
            have G11 := Aside0.mk (Row.new wn 132 (zs 64))
            have q11 : w.heap.size + 1 + 1 < wn.heap.size := HW.out.lt
            generalize hg11 : wn.heap.size = g11 at G11 q11 ⊢
            have HS := Aside0.mk (HS.out.alloc (.cells (arr .u32 (zs 64)) 132))
            have HR := Aside0.mk (HR.out.alloc (.cells (arr .u32 (zs 64)) 132))
            have HW := Aside0.mk (HW.out.alloc (.cells (arr .u32 (zs 64)) 132))
            have HBl := Aside0.mk (below_alloc HBl.out (.cells (arr .u32 (zs 64)) 132))
            generalize wn.alloc (.cells (arr .u32 (zs 64)) 132) = wn at *
            refine hK.out _ _ HS.out (fun _ => ?_)
            clear hK K
            refine one_ (i := 2) (N := some 10) #[true, true, true, true, false, false] rfl rfl (by kernel_rfl) (by decide) (fun K hK => ?_)
            refine value_ (by rfl) rfl (alloc_run _ 115 _ (hz8 _) rfl) ?_
            have G10 := Aside0.mk (Row.new wn 115 (zs 8))
            have q10 : w.heap.size + 1 + 1 < wn.heap.size := HW.out.lt
            have q1011 : g11 < wn.heap.size := G11.out.lt
            generalize hg10 : wn.heap.size = g10 at G10 q10 q1011 ⊢
            have HS := Aside0.mk (HS.out.alloc (.cells (arr .u32 (zs 8)) 115))
            have HR := Aside0.mk (HR.out.alloc (.cells (arr .u32 (zs 8)) 115))
            have HW := Aside0.mk (HW.out.alloc (.cells (arr .u32 (zs 8)) 115))
            have G11 := Aside0.mk (G11.out.alloc (.cells (arr .u32 (zs 8)) 115))
            have HBl := Aside0.mk (below_alloc HBl.out (.cells (arr .u32 (zs 8)) 115))
            generalize wn.alloc (.cells (arr .u32 (zs 8)) 115) = wn at *
            refine hK.out _ _ HS.out (fun _ => ?_)
            clear hK K
            exact norm_ rfl (hcont (g10, g11) _ ⟨HS.out, HR.out, HW.out, G10.out, G11.out, by omega, by omega, by omega, HBl.out⟩)
        · refine value_ (by rfl) rfl (alloc_run _ 115 _ (hz8 _) rfl) ?_
          have G10 := Aside0.mk (Row.new wr 115 (zs 8))
          have q10 : w.heap.size + 1 + 1 < wr.heap.size := HW.out.lt
          generalize hg10 : wr.heap.size = g10 at G10 q10 ⊢
          have HS := Aside0.mk (HS.out.alloc (.cells (arr .u32 (zs 8)) 115))
          have HR := Aside0.mk (HR.out.alloc (.cells (arr .u32 (zs 8)) 115))
          have HW := Aside0.mk (HW.out.alloc (.cells (arr .u32 (zs 8)) 115))
          have HBl := Aside0.mk (below_alloc HBl.out (.cells (arr .u32 (zs 8)) 115))
          generalize wr.alloc (.cells (arr .u32 (zs 8)) 115) = wn at *
          refine hK.out _ _ HS.out (fun _ => ?_)
          clear hK K
          refine two_ (i := 1) (Ni := some 80) (j := 3) (Nj := some 11) #[true, true, true, false, false, false] #[true, false, true, true, false, false] rfl rfl rfl rfl (by kernel_rfl) (by decide) (by decide) (fun K hK => ?_) (fun K hK => ?_)
          · refine goes_ Tryd.func87 (by kernel_rfl) rfl #[] (by rfl) rfl rfl (by simp) ?_
            refine (constants_calls _).mono ?_
            rintro e wn ⟨rfl, hb⟩
            refine ⟨_, rfl, ?_⟩
            have HS := Aside0.mk (HS.out.keep hb)
            have HR := Aside0.mk (HR.out.keep hb)
            have HW := Aside0.mk (HW.out.keep hb)
            have G10 := Aside0.mk (G10.out.keep hb)
            have HBl := Aside0.mk (below2 HBl.out HBl.out.size hb)
            clear hb
            refine hK.out _ _ HS.out (fun _ => ?_)
            clear hK K
            refine one_ (i := 3) (N := some 11) #[true, true, true, true, false, false] rfl rfl (by kernel_rfl) (by decide) (fun K hK => ?_)
            refine value_ (by rfl) rfl (alloc_run _ 132 _ (hz _) rfl) ?_
            have G11 := Aside0.mk (Row.new wn 132 (zs 64))
            have q11 : w.heap.size + 1 + 1 < wn.heap.size := HW.out.lt
            have q1011 : g10 < wn.heap.size := G10.out.lt
            generalize hg11 : wn.heap.size = g11 at G11 q11 q1011 ⊢
            have HS := Aside0.mk (HS.out.alloc (.cells (arr .u32 (zs 64)) 132))
            have HR := Aside0.mk (HR.out.alloc (.cells (arr .u32 (zs 64)) 132))
            have HW := Aside0.mk (HW.out.alloc (.cells (arr .u32 (zs 64)) 132))
            have G10 := Aside0.mk (G10.out.alloc (.cells (arr .u32 (zs 64)) 132))
            have HBl := Aside0.mk (below_alloc HBl.out (.cells (arr .u32 (zs 64)) 132))
            generalize wn.alloc (.cells (arr .u32 (zs 64)) 132) = wn at *
            refine hK.out _ _ HS.out (fun _ => ?_)
            clear hK K
            exact norm_ rfl (hcont (g10, g11) _ ⟨HS.out, HR.out, HW.out, G10.out, G11.out, by omega, by omega, by omega, HBl.out⟩)
          · refine value_ (by rfl) rfl (alloc_run _ 132 _ (hz _) rfl) ?_
            have G11 := Aside0.mk (Row.new wn 132 (zs 64))
            have q11 : w.heap.size + 1 + 1 < wn.heap.size := HW.out.lt
            have q1011 : g10 < wn.heap.size := G10.out.lt
            generalize hg11 : wn.heap.size = g11 at G11 q11 q1011 ⊢
            have HS := Aside0.mk (HS.out.alloc (.cells (arr .u32 (zs 64)) 132))
            have HR := Aside0.mk (HR.out.alloc (.cells (arr .u32 (zs 64)) 132))
            have HW := Aside0.mk (HW.out.alloc (.cells (arr .u32 (zs 64)) 132))
            have G10 := Aside0.mk (G10.out.alloc (.cells (arr .u32 (zs 64)) 132))
            have HBl := Aside0.mk (below_alloc HBl.out (.cells (arr .u32 (zs 64)) 132))
            generalize wn.alloc (.cells (arr .u32 (zs 64)) 132) = wn at *
            refine hK.out _ _ HS.out (fun _ => ?_)
            clear hK K
            refine one_ (i := 1) (N := some 80) #[true, true, true, true, false, false] rfl rfl (by kernel_rfl) (by decide) (fun K hK => ?_)
            refine goes_ Tryd.func87 (by kernel_rfl) rfl #[] (by rfl) rfl rfl (by simp) ?_
            refine (constants_calls _).mono ?_
            rintro e wn ⟨rfl, hb⟩
            refine ⟨_, rfl, ?_⟩
            have HS := Aside0.mk (HS.out.keep hb)
            have HR := Aside0.mk (HR.out.keep hb)
            have HW := Aside0.mk (HW.out.keep hb)
            have G10 := Aside0.mk (G10.out.keep hb)
            have G11 := Aside0.mk (G11.out.keep hb)
            have HBl := Aside0.mk (below2 HBl.out HBl.out.size hb)
            clear hb
            refine hK.out _ _ HS.out (fun _ => ?_)
            clear hK K
            exact norm_ rfl (hcont (g10, g11) _ ⟨HS.out, HR.out, HW.out, G10.out, G11.out, by omega, by omega, by omega, HBl.out⟩)
        · refine value_ (by rfl) rfl (alloc_run _ 132 _ (hz _) rfl) ?_
          have G11 := Aside0.mk (Row.new wr 132 (zs 64))
          have q11 : w.heap.size + 1 + 1 < wr.heap.size := HW.out.lt
          generalize hg11 : wr.heap.size = g11 at G11 q11 ⊢
          have HS := Aside0.mk (HS.out.alloc (.cells (arr .u32 (zs 64)) 132))
          have HR := Aside0.mk (HR.out.alloc (.cells (arr .u32 (zs 64)) 132))
          have HW := Aside0.mk (HW.out.alloc (.cells (arr .u32 (zs 64)) 132))
          have HBl := Aside0.mk (below_alloc HBl.out (.cells (arr .u32 (zs 64)) 132))
          generalize wr.alloc (.cells (arr .u32 (zs 64)) 132) = wn at *
          refine hK.out _ _ HS.out (fun _ => ?_)
          clear hK K
          refine two_ (i := 1) (Ni := some 80) (j := 2) (Nj := some 10) #[true, true, false, true, false, false] #[true, false, true, true, false, false] rfl rfl rfl rfl (by kernel_rfl) (by decide) (by decide) (fun K hK => ?_) (fun K hK => ?_)
          · refine goes_ Tryd.func87 (by kernel_rfl) rfl #[] (by rfl) rfl rfl (by simp) ?_
            refine (constants_calls _).mono ?_
            rintro e wn ⟨rfl, hb⟩
            refine ⟨_, rfl, ?_⟩
            have HS := Aside0.mk (HS.out.keep hb)
            have HR := Aside0.mk (HR.out.keep hb)
            have HW := Aside0.mk (HW.out.keep hb)
            have G11 := Aside0.mk (G11.out.keep hb)
            have HBl := Aside0.mk (below2 HBl.out HBl.out.size hb)
            clear hb
            refine hK.out _ _ HS.out (fun _ => ?_)
            clear hK K
            refine one_ (i := 2) (N := some 10) #[true, true, true, true, false, false] rfl rfl (by kernel_rfl) (by decide) (fun K hK => ?_)
            refine value_ (by rfl) rfl (alloc_run _ 115 _ (hz8 _) rfl) ?_
            have G10 := Aside0.mk (Row.new wn 115 (zs 8))
            have q10 : w.heap.size + 1 + 1 < wn.heap.size := HW.out.lt
            have q1011 : g11 < wn.heap.size := G11.out.lt
            generalize hg10 : wn.heap.size = g10 at G10 q10 q1011 ⊢
            have HS := Aside0.mk (HS.out.alloc (.cells (arr .u32 (zs 8)) 115))
            have HR := Aside0.mk (HR.out.alloc (.cells (arr .u32 (zs 8)) 115))
            have HW := Aside0.mk (HW.out.alloc (.cells (arr .u32 (zs 8)) 115))
            have G11 := Aside0.mk (G11.out.alloc (.cells (arr .u32 (zs 8)) 115))
            have HBl := Aside0.mk (below_alloc HBl.out (.cells (arr .u32 (zs 8)) 115))
            generalize wn.alloc (.cells (arr .u32 (zs 8)) 115) = wn at *
            refine hK.out _ _ HS.out (fun _ => ?_)
            clear hK K
            exact norm_ rfl (hcont (g10, g11) _ ⟨HS.out, HR.out, HW.out, G10.out, G11.out, by omega, by omega, by omega, HBl.out⟩)
          · refine value_ (by rfl) rfl (alloc_run _ 115 _ (hz8 _) rfl) ?_
            have G10 := Aside0.mk (Row.new wn 115 (zs 8))
            have q10 : w.heap.size + 1 + 1 < wn.heap.size := HW.out.lt
            have q1011 : g11 < wn.heap.size := G11.out.lt
            generalize hg10 : wn.heap.size = g10 at G10 q10 q1011 ⊢
            have HS := Aside0.mk (HS.out.alloc (.cells (arr .u32 (zs 8)) 115))
            have HR := Aside0.mk (HR.out.alloc (.cells (arr .u32 (zs 8)) 115))
            have HW := Aside0.mk (HW.out.alloc (.cells (arr .u32 (zs 8)) 115))
            have G11 := Aside0.mk (G11.out.alloc (.cells (arr .u32 (zs 8)) 115))
            have HBl := Aside0.mk (below_alloc HBl.out (.cells (arr .u32 (zs 8)) 115))
            generalize wn.alloc (.cells (arr .u32 (zs 8)) 115) = wn at *
            refine hK.out _ _ HS.out (fun _ => ?_)
            clear hK K
            refine one_ (i := 1) (N := some 80) #[true, true, true, true, false, false] rfl rfl (by kernel_rfl) (by decide) (fun K hK => ?_)
            refine goes_ Tryd.func87 (by kernel_rfl) rfl #[] (by rfl) rfl rfl (by simp) ?_
            refine (constants_calls _).mono ?_
            rintro e wn ⟨rfl, hb⟩
            refine ⟨_, rfl, ?_⟩
            have HS := Aside0.mk (HS.out.keep hb)
            have HR := Aside0.mk (HR.out.keep hb)
            have HW := Aside0.mk (HW.out.keep hb)
            have G10 := Aside0.mk (G10.out.keep hb)
            have G11 := Aside0.mk (G11.out.keep hb)
            have HBl := Aside0.mk (below2 HBl.out HBl.out.size hb)
            clear hb
            refine hK.out _ _ HS.out (fun _ => ?_)
            clear hK K
            exact norm_ rfl (hcont (g10, g11) _ ⟨HS.out, HR.out, HW.out, G10.out, G11.out, by omega, by omega, by omega, HBl.out⟩)
end Go.Proofs.YtpgfafpjfdbjmaaDoor
end
section
namespace Go.Proofs.YtpgfafpjfdbjmaaDoor
end Go.Proofs.YtpgfafpjfdbjmaaDoor
end
section
namespace Go.Proofs.YtpgfafpjfdbjmaaDoor
open Go.RowKit Q Go.Proofs.YtpgfafpjfdbjmaaDoorW.PrintWords Go.Proofs.YtpgfafpjfdbjmaaDoorW.PrintLast Go.Proofs.YtpgfafpjfdbjmaaDoorW.PrintMore
def H8 : V8 := ⟨1779033703, 3144134277, 1013904242, 2773480762, 1359893119, 2600822924, 528734635, 1541459225⟩
def V8.cells (x : V8) : Array Value := #[.int .u32 x.a, .int .u32 x.b, .int .u32 x.c, .int .u32 x.d, .int .u32 x.e, .int .u32 x.f, .int .u32 x.g, .int .u32 x.h]
def v8 (l : List Int) : V8 := ⟨l.getD 0 0, l.getD 1 0, l.getD 2 0, l.getD 3 0, l.getD 4 0, l.getD 5 0, l.getD 6 0, l.getD 7 0⟩
theorem v8_l (l : List Int) (h : l.length = 8) : (v8 l).l = l := by
  match l, h with
  | [a, b, c, d, e, f, g, i], _ => rfl
def bv (x : V8) (b : ByteArray) : V8 := v8 (blk KL x b)
theorem blk_len (K : List Int) (x : V8) (b : ByteArray) : (blk K x b).length = 8 := by unfold blk; rw [ad_len]; rfl
theorem bv_l (x : V8) (b : ByteArray) : (bv x b).l = blk KL x b := v8_l _ (blk_len _ _ _)
theorem block_any (x : V8) (b : ByteArray) (hb : b.size = 64) (w : World) :
    Calls Tryd.prog 73 #[.agg x.cells, .string b] w fun e w' => e = .returned (.agg (bv x b).cells) ∧ Below w.heap.size w w' := by
  have := block_calls x.a x.b x.c x.d x.e x.f x.g x.h b hb _ (Lib.hid rfl) w
  rw [← bv_l] at this
  exact this
def fd (x : V8) (t : ByteArray) : Nat → V8
  | 0 => x
  | k + 1 => bv (fd x t k) (t.extract (64 * k) (64 * k + 64))
def DSt (w : World) (g : Nat) (x : V8) (r : ByteArray) (n : Int) : Prop := w.heap[g]? = some (.cells #[.int .u32 x.a, .int .u32 x.b, .int .u32 x.c, .int .u32 x.d, .int .u32 x.e, .int .u32 x.f, .int .u32 x.g, .int .u32 x.h, .string r, .int .i64 n] 118 (0, 0))
theorem DSt.lt {w : World} {g : Nat} {x : V8} {r : ByteArray} {n : Int} (h : DSt w g x r n) : g < w.heap.size := (Array.getElem?_eq_some_iff.1 h).1
theorem DSt.c8 {w : World} {g : Nat} {x : V8} {r : ByteArray} {n : Int} (h : DSt w g x r n) : w.cell? ⟨g, 8, none⟩ = some (.string r) := by rw [Lib.cell_of_heap h]; rfl
theorem DSt.c9 {w : World} {g : Nat} {x : V8} {r : ByteArray} {n : Int} (h : DSt w g x r n) : w.cell? ⟨g, 9, none⟩ = some (.int .i64 n) := by rw [Lib.cell_of_heap h]; rfl
theorem DSt.free {w : World} {g : Nat} {x : V8} {r : ByteArray} {n : Int} (h : DSt w g x r n) (i : Nat) : w.frozen? ⟨g, i, none⟩ = false := Lib.frozen_of_heap h i
theorem DSt.set8 {w : World} {g : Nat} {x : V8} {r : ByteArray} {n : Int} (h : DSt w g x r n) (r' : ByteArray) : DSt (w.setCell ⟨g, 8, none⟩ (.string r')) g x r' n := by
  have : w.heap[g]? = _ := h
  simp [DSt, World.setCell, Array.getElem?_modify, this]
theorem DSt.set9 {w : World} {g : Nat} {x : V8} {r : ByteArray} {n : Int} (h : DSt w g x r n) (n' : Int) : DSt (w.setCell ⟨g, 9, none⟩ (.int .i64 n')) g x r n' := by
  have : w.heap[g]? = _ := h
  simp [DSt, World.setCell, Array.getElem?_modify, this]
theorem DSt.keep {w w' : World} {g : Nat} {x : V8} {r : ByteArray} {n : Int} (h : DSt w g x r n) (hb : Below w.heap.size w w') : DSt w' g x r n := (hb.block g h.lt).trans h
theorem DSt.range {w : World} {g : Nat} {x : V8} {r : ByteArray} {n : Int} (h : DSt w g x r n) : w.rangeAt g 0 x.cells.toList := by
  have := World.rangeAt_of_block h 0 8
  exact this
theorem DSt.there {w : World} {g : Nat} {x : V8} {r : ByteArray} {n : Int} (h : DSt w g x r n) : w.there g 0 8 := by
  intro j hj
  refine ⟨?_, h.free _⟩
  rw [Lib.cell_of_heap h, Nat.zero_add, List.getElem?_toArray, List.getElem?_eq_getElem (by simp; omega)]
  rfl
theorem DSt.setAll {w : World} {g : Nat} {x : V8} {r : ByteArray} {n : Int} (h : DSt w g x r n) (y : V8) : DSt (w.setCells g 0 y.cells.toList) g y r n := by
  have : w.heap[g]? = _ := h
  simp [DSt, V8.cells, World.setCells, World.setCell, Array.getElem?_modify, this]
theorem Bf.setCell {B g : Nat} {w w' : World} (h : Bf B g w w') (i : Nat) (v : Value) : Bf B g w (w'.setCell ⟨g, i, none⟩ v) :=
  h.trans ⟨rfl, rfl, rfl, by simp [World.setCell], fun k _ hk => Below.heap_setCell _ _ _ _ (fun e => hk e)⟩
theorem setCells_other (g : Nat) : ∀ (vs : List Value) (o : Nat) (w : World) (k : Nat), k ≠ g → (w.setCells g o vs).heap[k]? = w.heap[k]? ∧ (w.setCells g o vs).heap.size = w.heap.size ∧ (w.setCells g o vs).os = w.os ∧ (w.setCells g o vs).tape = w.tape ∧ (w.setCells g o vs).output = w.output
  | [], _, _, _, _ => ⟨rfl, rfl, rfl, rfl, rfl⟩
  | v :: vs, o, w, k, hk => by
    have := setCells_other g vs (o + 1) (w.setCell ⟨g, o, none⟩ v) k hk
    refine ⟨this.1.trans (Below.heap_setCell _ _ _ _ (fun e => hk e)), this.2.1.trans (by simp [World.setCell]), this.2.2.1, this.2.2.2.1, this.2.2.2.2⟩
theorem Bf.setCells {B g : Nat} {w w' : World} (h : Bf B g w w') (o : Nat) (vs : List Value) : Bf B g w (w'.setCells g o vs) := by
  have h0 := setCells_other g vs o w' (g + 1) (by omega)
  exact h.trans ⟨h0.2.2.1, h0.2.2.2.1, h0.2.2.2.2, by rw [h0.2.1]; exact Nat.le_refl _, fun k _ hk => (setCells_other g vs o w' k hk).1⟩
set_option maxRecDepth 100000 in
set_option maxHeartbeats 400000 in
theorem dnew_calls (w : World) : Calls Tryd.prog 48 #[] w fun e w' => ∃ g, e = .returned (.pointer (some ⟨g, 0, none⟩)) ∧ DSt w' g H8 ⟨#[]⟩ 0 ∧ w.heap.size ≤ g ∧ Below w.heap.size w w' := by
  go_enter Tryd.func48, Tryd.ntmps48
  go_wp2_with fail
  have hh := begin_calls w
  refine Calls.mono hh ?_
  clear hh
  rintro e w1 ⟨rfl, b1⟩
  have HB := Lib.hid b1
  clear b1
  go_wp2_with fail
  go_ret
  refine ⟨w1.heap.size, rfl, ?_, HB.out.size, below_alloc HB.out _⟩
  unfold DSt
  rw [heap_alloc_new]
  simp [arr, H0, H8]
end Go.Proofs.YtpgfafpjfdbjmaaDoor
end
section
namespace Go.Proofs.YtpgfafpjfdbjmaaDoor
open Go.RowKit Q Go.Proofs.YtpgfafpjfdbjmaaDoorW.PrintWords Go.Proofs.YtpgfafpjfdbjmaaDoorW.PrintLast Go.Proofs.YtpgfafpjfdbjmaaDoorW.PrintMore
theorem DSt.load8 {w : World} {g : Nat} {x : V8} {r : ByteArray} {n : Int} (h : DSt w g x r n) : (Instr.loadAt 115 (.pointer (some ⟨g, 0, none⟩))).run Tryd.prog w = .ok (.agg x.cells) w :=
  run_loadAt_mid w g 0 115 x.cells.toList _ h.range Tryd.underlying115 rfl (by rw [size8]; rfl)
theorem load8_run (ev : Operand → Value) (x : Operand) {W : World} {g : Nat} {y : V8} {r : ByteArray} {n : Int} (h : DSt W g y r n) (hx : ev x = .pointer (some ⟨g, 0, none⟩)) {o : Oper} (ho : o.op = .load 115 x) :
    (execOp ev o).run Tryd.prog W = .ok (.value (.agg y.cells)) W := by
  unfold execOp
  simp only [ho, hx, Sem.run_bind, Result.andThen_ok, h.load8, Sem.run_pure]
theorem store8_run (ev : Operand → Value) (x y : Operand) {W : World} {g : Nat} {x0 : V8} {r : ByteArray} {n : Int} (h : DSt W g x0 r n) (z : V8) (hx : ev x = .pointer (some ⟨g, 0, none⟩)) (hy : ev y = .agg z.cells) {o : Oper} (ho : o.op = .store 115 x y) :
    (execOp ev o).run Tryd.prog W = .ok .skip (W.setCells g 0 z.cells.toList) := by
  unfold execOp
  simp only [ho, hx, hy, Sem.run_bind, Result.andThen_ok, run_storeAt_mid W g 0 115 z.cells h.there (by rw [size8]; rfl) (arr_one .u32 z.l), Sem.run_pure]
set_option maxRecDepth 100000 in
set_option maxHeartbeats 1000000 in
theorem dadd_calls (g : Nat) (x : V8) (r s : ByteArray) (n : Nat) (w : World) (h : DSt w g x r n) (hr : r.size ≤ 64) (hs : s.size ≤ 140737488355328) (hn : n ≤ 140737488355328) :
    Calls Tryd.prog 49 #[.pointer (some ⟨g, 0, none⟩), .string s] w fun e w' => e = .returned (.int .i64 (n + s.size : Nat)) ∧ DSt w' g (fd x (r ++ s) ((r ++ s).size / 64)) ((r ++ s).extract (64 * ((r ++ s).size / 64)) (r ++ s).size) (n + s.size : Nat) ∧ Bf w.heap.size g w w' := by
  have HD : Aside0 (DSt ((w.setCell ⟨g, 9, none⟩ (.int .i64 ((n + s.size : Nat) : Int))).setCell ⟨g, 8, none⟩ (.string (r ++ s))) g x (r ++ s) ((n + s.size : Nat) : Int)) := ⟨(h.set9 _).set8 _⟩
  have HF : Aside0 (Bf w.heap.size g w ((w.setCell ⟨g, 9, none⟩ (.int .i64 ((n + s.size : Nat) : Int))).setCell ⟨g, 8, none⟩ (.string (r ++ s)))) := ⟨((Bf.refl _ _ _).setCell _ _).setCell _ _⟩
  have HG := Aside0.mk h.lt
  have c8 := h.c8
  have c9 := h.c9
  have f8 := h.free 8
  have f9 := h.free 9
  have hw9 : IntKind.i64.wrap ((n : Int) + (s.size : Int)) = (n : Int) + (s.size : Int) := IntWalk.i64_in _ (by omega)
  have hsz : r.size + s.size ≤ 9223372036854775807 := by omega
  clear h
  go_enter Tryd.func49, Tryd.ntmps49
  go_wp2_with fail
  rw [show (n : Int) + (s.size : Int) = ((n + s.size : Nat) : Int) by omega]
  clear c8 c9 f8 f9 hw9 hsz
  have hT : (r ++ s).size ≤ 140737488355400 := by rw [ByteArray.size_append]; omega
  generalize (w.setCell ⟨g, 9, none⟩ (.int .i64 ((n + s.size : Nat) : Int))).setCell ⟨g, 8, none⟩ (.string (r ++ s)) = w1 at *
  generalize hN : ((n + s.size : Nat) : Int) = N at *
  generalize ht : r ++ s = t at *
  have HN := Lib.hid hN
  have Ht := Lib.hid ht
  clear hN ht
  go_loopg [] (t.size / 64) (fun m wr => ∃ k : Nat, k + m = t.size / 64 ∧ Aside0 (DSt wr g (fd x t k) (t.extract (64 * k) t.size) N) ∧ Aside0 (Bf w.heap.size g w wr))
  case atStart => exact ⟨0, by omega, ⟨by rw [Nat.mul_zero, ByteArray.extract_zero_size]; exact HD.out⟩, HF⟩
  case round =>
    clear HD HF
    obtain ⟨k, hk, HD, HF⟩ := hrel
    have hq : (t.extract (64 * k) t.size).size = t.size - 64 * k := by rw [ByteArray.size_extract]; omega
    have hx1 : Hid (64 * k + 64 ≤ t.size → bv (fd x t k) ((t.extract (64 * k) t.size).extract 0 64) = fd x t (k + 1)) := Lib.hid (by intro h; rw [fd, ByteArray.extract_extract]; congr 2; omega)
    have hq1 : Hid ((t.extract (64 * k) t.size).extract 64 (t.extract (64 * k) t.size).size = t.extract (64 * (k + 1)) t.size) := Lib.hid (by rw [hq, ByteArray.extract_extract]; congr 1 <;> omega)
    have c8 := HD.out.c8
    have c9 := HD.out.c9
    have HR : Hid (t.extract (64 * k) t.size = t.extract (64 * (t.size / 64)) t.size ∧ fd x t k = fd x t (t.size / 64) ∨ 64 ≤ (t.extract (64 * k) t.size).size) := Lib.hid (by
      rcases Nat.lt_or_ge k (t.size / 64) with h | h
      · right; omega
      · left; have : k = t.size / 64 := by omega
        rw [this]; exact ⟨rfl, rfl⟩)
    generalize fd x t k = y at *
    generalize t.extract (64 * k) t.size = q at *
    have hqm : q.size ≤ 140737488355400 := by omega
    by_cases hge : 64 ≤ q.size
    · have hlt : k + 1 ≤ t.size / 64 := by omega
      clear hq
      go_wp2_with fail
      have hq64 : (q.extract 0 64).size = 64 := by rw [ByteArray.size_extract]; omega
      refine start_ (n := 23) (S := fun w' => w'.cell? ⟨g, 8, none⟩ = some (.string q) ∧ Aside0 (DSt w' g y q N) ∧ Aside0 (Bf w.heap.size g w w')) (ds := [19, 22]) #[false, false, false, false, false, false, false, false, false, false, false, false, false, false, false, false, false, false, false, false, false, false, false] (by kernel_rfl) rfl rfl ⟨DSt.c8 (w := wr.drew) HD.out, ⟨HD.out⟩, ⟨HF.out.trans ⟨rfl, rfl, rfl, Nat.le_refl _, fun _ _ _ => rfl⟩⟩⟩ (fun hHeld => ?_)
      refine pure_ (i := 0) (N := some 30) (v := ?_) (a' := ?_) #[true, false, false, false, false, false, false, false, false, false, false, false, false, false, false, false, false, false, false, false, false, false, false] rfl rfl (by kernel_rfl) (fun _ _ _ h => h) (Or.inl ⟨by rfl, ?_⟩) ?_ ?_
      rotate_left
      · intro w'
        go_simp
        with_reducible rfl
      rotate_left
      · simp only [Act.put, List.setIfInBounds_toArray, List.set_cons_zero, List.set_cons_succ]
        rfl
      refine pure_ (i := 1) (N := some 31) (v := ?_) (a' := ?_) #[true, true, false, false, false, false, false, false, false, false, false, false, false, false, false, false, false, false, false, false, false, false, false] rfl rfl (by kernel_rfl) (fun _ _ _ h => h) (Or.inl ⟨by rfl, ?_⟩) ?_ ?_
      rotate_left
      · intro w'
        go_simp
        with_reducible rfl
      rotate_left
      · simp only [Act.put, List.setIfInBounds_toArray, List.set_cons_zero, List.set_cons_succ]
        rfl
      refine pure_ (i := 2) (N := some 32) (v := ?_) (a' := ?_) #[true, true, true, false, false, false, false, false, false, false, false, false, false, false, false, false, false, false, false, false, false, false, false] rfl rfl (by kernel_rfl) (fun _ _ _ h => h) (Or.inl ⟨by rfl, ?_⟩) ?_ ?_
      rotate_left
      · intro w'
        go_simp
        with_reducible rfl
      rotate_left
      · simp only [Act.put, List.setIfInBounds_toArray, List.set_cons_zero, List.set_cons_succ]
        rfl
      refine pure_ (i := 3) (N := some 33) (v := ?_) (a' := ?_) #[true, true, true, true, false, false, false, false, false, false, false, false, false, false, false, false, false, false, false, false, false, false, false] rfl rfl (by kernel_rfl) (fun _ _ _ h => h) (Or.inl ⟨by rfl, ?_⟩) ?_ ?_
      rotate_left
      · intro w'
        go_simp
        with_reducible rfl
      rotate_left
      · simp only [Act.put, List.setIfInBounds_toArray, List.set_cons_zero, List.set_cons_succ]
        rfl
      refine pure_ (i := 4) (N := some 34) (v := ?_) (a' := ?_) #[true, true, true, true, true, false, false, false, false, false, false, false, false, false, false, false, false, false, false, false, false, false, false] rfl rfl (by kernel_rfl) (fun _ _ _ h => h) (Or.inl ⟨by rfl, ?_⟩) ?_ ?_
      rotate_left
      · intro w'
        go_simp
        with_reducible rfl
      rotate_left
      · simp only [Act.put, List.setIfInBounds_toArray, List.set_cons_zero, List.set_cons_succ]
        rfl
      refine pure_ (i := 6) (N := some 36) (v := ?_) (a' := ?_) #[true, true, true, true, true, false, true, false, false, false, false, false, false, false, false, false, false, false, false, false, false, false, false] rfl rfl (by kernel_rfl) (fun _ _ _ h => h) (Or.inl ⟨by rfl, ?_⟩) ?_ ?_
      rotate_left
      · intro w'
        go_simp
        with_reducible rfl
      rotate_left
      · simp only [Act.put, List.setIfInBounds_toArray, List.set_cons_zero, List.set_cons_succ]
        rfl
      refine pure_ (i := 7) (N := some 37) (v := ?_) (a' := ?_) #[true, true, true, true, true, false, true, true, false, false, false, false, false, false, false, false, false, false, false, false, false, false, false] rfl rfl (by kernel_rfl) (fun _ _ _ h => h) (Or.inl ⟨by rfl, ?_⟩) ?_ ?_
      rotate_left
      · intro w'
        go_simp
        with_reducible rfl
      rotate_left
      · simp only [Act.put, List.setIfInBounds_toArray, List.set_cons_zero, List.set_cons_succ]
        rfl
      refine pure_ (i := 8) (N := some 38) (v := ?_) (a' := ?_) #[true, true, true, true, true, false, true, true, true, false, false, false, false, false, false, false, false, false, false, false, false, false, false] rfl rfl (by kernel_rfl) (fun _ _ _ h => h) (Or.inl ⟨by rfl, ?_⟩) ?_ ?_
      rotate_left
      · intro w'
        go_simp
        with_reducible rfl
      rotate_left
      · simp only [Act.put, List.setIfInBounds_toArray, List.set_cons_zero, List.set_cons_succ]
        rfl
      refine pure_ (i := 12) (N := some 42) (v := ?_) (a' := ?_) #[true, true, true, true, true, false, true, true, true, false, false, false, true, false, false, false, false, false, false, false, false, false, false] rfl rfl (by kernel_rfl) (fun _ _ _ h => h) (Or.inl ⟨by rfl, ?_⟩) ?_ ?_
      rotate_left
      · intro w'
        go_simp
        with_reducible rfl
      rotate_left
      · simp only [Act.put, List.setIfInBounds_toArray, List.set_cons_zero, List.set_cons_succ]
        rfl
      refine pure_ (i := 13) (N := some 43) (v := ?_) (a' := ?_) #[true, true, true, true, true, false, true, true, true, false, false, false, true, true, false, false, false, false, false, false, false, false, false] rfl rfl (by kernel_rfl) (fun _ _ _ h => h) (Or.inl ⟨by rfl, ?_⟩) ?_ ?_
      rotate_left
      · intro w'
        go_simp
        with_reducible rfl
      rotate_left
      · simp only [Act.put, List.setIfInBounds_toArray, List.set_cons_zero, List.set_cons_succ]
        rfl
      refine pure_ (i := 14) (N := some 44) (v := ?_) (a' := ?_) #[true, true, true, true, true, false, true, true, true, false, false, false, true, true, true, false, false, false, false, false, false, false, false] rfl rfl (by kernel_rfl) (fun _ _ _ h => h) (Or.inl ⟨by rfl, ?_⟩) ?_ ?_
      rotate_left
      · intro w'
        go_simp
        with_reducible rfl
      rotate_left
      · simp only [Act.put, List.setIfInBounds_toArray, List.set_cons_zero, List.set_cons_succ]
        rfl
      refine take_ (i := 5) (N := some 35) (v := ?_) (a' := ?_) #[true, true, true, true, true, true, true, true, true, false, false, false, true, true, true, false, false, false, false, false, false, false, false] rfl rfl (by kernel_rfl) (fun _ _ _ h => h) (Or.inl ⟨by rfl, ?_⟩) hHeld ?_ ?_
      rotate_left
      · rintro w' ⟨s0, s1, s2⟩
        refine load8_run _ (.tmp 34) s1.out ?_ ?_ <;> rfl
      rotate_left
      · simp only [Act.put, List.setIfInBounds_toArray, List.set_cons_zero, List.set_cons_succ]
        rfl
      refine take_ (i := 9) (N := some 39) (v := ?_) (a' := ?_) #[true, true, true, true, true, true, true, true, true, true, false, false, true, true, true, false, false, false, false, false, false, false, false] rfl rfl (by kernel_rfl) (fun _ _ _ h => h) (Or.inl ⟨by rfl, ?_⟩) hHeld ?_ ?_
      rotate_left
      · rintro w' ⟨s0, s1, s2⟩
        go_simp
        with_reducible rfl
      rotate_left
      · simp only [Act.put, List.setIfInBounds_toArray, List.set_cons_zero, List.set_cons_succ]
        rfl
      refine pure_ (i := 10) (N := some 40) (v := ?_) (a' := ?_) #[true, true, true, true, true, true, true, true, true, true, true, false, true, true, true, false, false, false, false, false, false, false, false] rfl rfl (by kernel_rfl) (fun _ _ _ h => h) (Or.inl ⟨by rfl, ?_⟩) ?_ ?_
      rotate_left
      · intro w'
        go_simp
        with_reducible rfl
      rotate_left
      · simp only [Act.put, List.setIfInBounds_toArray, List.set_cons_zero, List.set_cons_succ]
        rfl
      refine take_ (i := 15) (N := some 45) (v := ?_) (a' := ?_) #[true, true, true, true, true, true, true, true, true, true, true, false, true, true, true, true, false, false, false, false, false, false, false] rfl rfl (by kernel_rfl) (fun _ _ _ h => h) (Or.inl ⟨by rfl, ?_⟩) hHeld ?_ ?_
      rotate_left
      · rintro w' ⟨s0, s1, s2⟩
        go_simp
        with_reducible rfl
      rotate_left
      · simp only [Act.put, List.setIfInBounds_toArray, List.set_cons_zero, List.set_cons_succ]
        rfl
      refine pure_ (i := 16) (N := some 46) (v := ?_) (a' := ?_) #[true, true, true, true, true, true, true, true, true, true, true, false, true, true, true, true, true, false, false, false, false, false, false] rfl rfl (by kernel_rfl) (fun _ _ _ h => h) (Or.inl ⟨by rfl, ?_⟩) ?_ ?_
      rotate_left
      · intro w'
        go_simp
        with_reducible rfl
      rotate_left
      · simp only [Act.put, List.setIfInBounds_toArray, List.set_cons_zero, List.set_cons_succ]
        rfl
      refine one_ (i := 11) (N := some 41) #[true, true, true, true, true, true, true, true, true, true, true, true, true, true, true, true, true, false, false, false, false, false, false] rfl rfl (by kernel_rfl) (by decide) (fun K hK => ?_)
      refine goes_ Tryd.func73 (by kernel_rfl) rfl #[.agg y.cells, .string (q.extract 0 64)] (by rfl) rfl rfl (by simp only [List.map_toArray, List.map_cons, List.map_nil]; rfl) ?_
      with_reducible refine (block_any y _ hq64 _).mono ?_
      rintro e w3 ⟨rfl, hb⟩
      refine ⟨_, rfl, ?_⟩
      have HD3 := hHeld.2.1.out.keep hb
      have HF3 := hHeld.2.2.out.trans (Bf.of_below hb hHeld.2.2.out.size)
      refine hK.out _ _ ⟨HD3.c8, ⟨HD3⟩, ⟨HF3⟩⟩ (fun hHeld => ?_)
      clear hK K
      refine norm_ (a' := ?_) ?_ ?_
      rotate_left
      · show Act.put _ (some 41) _ = _
        simp only [Act.put, List.setIfInBounds_toArray, List.set_cons_zero, List.set_cons_succ]
        rfl
      refine pure_ (i := 17) (N := some 47) (v := ?_) (a' := ?_) #[true, true, true, true, true, true, true, true, true, true, true, true, true, true, true, true, true, true, false, false, false, false, false] rfl rfl (by kernel_rfl) (fun _ _ _ h => h) (Or.inl ⟨by rfl, ?_⟩) ?_ ?_
      rotate_left
      · intro w'
        go_simp
        with_reducible rfl
      rotate_left
      · simp only [Act.put, List.setIfInBounds_toArray, List.set_cons_zero, List.set_cons_succ]
        rfl
      refine pure_ (i := 18) (N := some 48) (v := ?_) (a' := ?_) #[true, true, true, true, true, true, true, true, true, true, true, true, true, true, true, true, true, true, true, false, false, false, false] rfl rfl (by kernel_rfl) (fun _ _ _ h => h) (Or.inl ⟨by rfl, ?_⟩) ?_ ?_
      rotate_left
      · intro w'
        go_simp
        with_reducible rfl
      rotate_left
      · simp only [Act.put, List.setIfInBounds_toArray, List.set_cons_zero, List.set_cons_succ]
        rfl
      refine last_ (i := 19) (N := none) #[true, true, true, true, true, true, true, true, true, true, true, true, true, true, true, true, true, true, true, true, false, false, false] rfl rfl (by kernel_rfl) (by decide) (fun K hK => ?_)
      refine skip_ (by rfl) rfl (store8_run _ (.tmp 48) (.tmp 41) hHeld.2.1.out (bv y (q.extract 0 64)) rfl rfl rfl) ?_
      have HD4 := hHeld.2.1.out.setAll (bv y (q.extract 0 64))
      have HF4 := hHeld.2.2.out.setCells 0 (bv y (q.extract 0 64)).cells.toList
      clear hHeld HD3 HF3 hb
      generalize w3.setCells g 0 (bv y (q.extract 0 64)).cells.toList = w4 at *
      have c84 := HD4.c8
      have f84 := HD4.free 8
      have HD5 := Aside0.mk HD4
      have HF5 := Aside0.mk HF4
      clear HD4 HF4
      refine hK.out _ _ ?_
      clear hK K
      refine pure_ (i := 20) (N := some 49) (v := ?_) (a' := ?_) #[true, true, true, true, true, true, true, true, true, true, true, true, true, true, true, true, true, true, true, true, true, false, false] rfl rfl (by kernel_rfl) (fun _ _ _ h => h) (Or.inl ⟨by rfl, ?_⟩) ?_ ?_
      rotate_left
      · intro w'
        go_simp
        with_reducible rfl
      rotate_left
      · simp only [Act.put, List.setIfInBounds_toArray, List.set_cons_zero, List.set_cons_succ]
        rfl
      refine pure_ (i := 21) (N := some 50) (v := ?_) (a' := ?_) #[true, true, true, true, true, true, true, true, true, true, true, true, true, true, true, true, true, true, true, true, true, true, false] rfl rfl (by kernel_rfl) (fun _ _ _ h => h) (Or.inl ⟨by rfl, ?_⟩) ?_ ?_
      rotate_left
      · intro w'
        go_simp
        with_reducible rfl
      rotate_left
      · simp only [Act.put, List.setIfInBounds_toArray, List.set_cons_zero, List.set_cons_succ]
        rfl
      refine last_ (i := 22) (N := none) #[true, true, true, true, true, true, true, true, true, true, true, true, true, true, true, true, true, true, true, true, true, true, true] rfl rfl (by kernel_rfl) (by decide) (fun K hK => ?_)
      refine skip_ (w1 := ?_) (by rfl) rfl ?_ ?_
      rotate_left
      · go_simp
        rfl
      refine hK.out _ _ ?_
      clear hK K
      refine done_ (by kernel_rfl) ?_

      go_wp2_with fail
      obtain ⟨m, rfl⟩ : ∃ m, gk = m + 1 := ⟨gk - 1, by omega⟩
      go_roundg m
      case measure => omega
      case rel =>
        have h1 := HD5.out.set8 (q.extract 64 q.size)
        have h2 := HF5.out.setCell 8 (.string (q.extract 64 q.size))
        have e1 := hx1.out (by omega)
        have e2 := hq1.out
        refine ⟨k + 1, by omega, ⟨?_⟩, ⟨h2⟩⟩
        rw [← e1, ← e2]
        exact h1
    · go_wp2_with fail
      go_ret
      rcases HR.out with ⟨h1, h2⟩ | h1
      · have h3 := HD.out
        rw [h1, h2, ← Ht.out, ← HN.out] at h3
        exact ⟨by rw [HN.out]; rfl, h3, HF.out⟩
      · exact absurd h1 hge
end Go.Proofs.YtpgfafpjfdbjmaaDoor
end
section
namespace Go.Proofs.YtpgfafpjfdbjmaaDoor
open Go.RowKit
section
variable {P : Program}
def RowB (B : Nat) (E : TypeId) (v : Value) (l : List UInt8) (w : World) : Prop :=
  (v = .slice none 0 0 ∧ l = []) ∨
  ∃ g cap cur fz, v = .slice (some ⟨g, 0, none⟩) l.length cap ∧ B ≤ g ∧ w.heap[g]? = some (.cells cur E fz) ∧ (∀ i, l.length ≤ i → i < cap → fz.1 ≤ i → fz.2 ≤ i) ∧ l.length ≤ cap ∧ cap ≤ maxLen ∧ cur.size = cap ∧ cur.toList.take l.length = Lib.byteCells l
theorem RowB.lt {B : Nat} {E : TypeId} {v : Value} {l : List UInt8} {w : World} (h : RowB B E v l w) : ∀ k, v.ownBlock = some k → B ≤ k ∧ k < w.heap.size := by
  intro k hk
  rcases h with ⟨rfl, _⟩ | ⟨g, cap, cur, fz, rfl, hb, hg, _⟩
  · simp [Value.ownBlock] at hk
  · simp [Value.ownBlock] at hk
    subst hk
    exact ⟨hb, (Array.getElem?_eq_some_iff.1 hg).1⟩
theorem RowB.keep {B : Nat} {E : TypeId} {v : Value} {l : List UInt8} {w w' : World} (h : RowB B E v l w) (hk : ∀ g, v.ownBlock = some g → w'.heap[g]? = w.heap[g]?) : RowB B E v l w' := by
  rcases h with h | ⟨g, cap, cur, fz, rfl, hb, hg, rest⟩
  · exact .inl h
  · exact .inr ⟨g, cap, cur, fz, rfl, hb, (hk g rfl).trans hg, rest⟩
theorem RowB.below {B : Nat} {E : TypeId} {v : Value} {l : List UInt8} {w w' : World} (h : RowB B E v l w) (hb : Below w.heap.size w w') : RowB B E v l w' :=
  h.keep (fun g hg => hb.block g (h.lt g hg).2)
theorem RowB.alloc {B : Nat} {E : TypeId} {v : Value} {l : List UInt8} {w : World} (h : RowB B E v l w) (o : Obj) : RowB B E v l (w.alloc o) :=
  h.keep (fun g hg => Lib.alloc_old w o g (h.lt g hg).2)
theorem RowB.grown {B : Nat} {E : TypeId} {v : Value} {l : List UInt8} {w w' : World} {row : Option Nat} (h : RowB B E v l w) (hg : w.grownBy w' row) (hne : ∀ g, v.ownBlock = some g → some g ≠ row) : RowB B E v l w' :=
  h.keep (fun g hk => hg.block g (h.lt g hk).2 (hne g hk))
theorem RowB.raise {B B' : Nat} {E : TypeId} {v : Value} {l : List UInt8} {w : World} (h : RowB B E v l w) (hB : B' ≤ B) : RowB B' E v l w := by
  rcases h with h | ⟨g, cap, cur, fz, rfl, hb, hg, rest⟩
  · exact .inl h
  · exact .inr ⟨g, cap, cur, fz, rfl, by omega, hg, rest⟩
theorem RowB.cells {B : Nat} {E : TypeId} {v : Value} {l : List UInt8} {w : World} (h : RowB B E v l w) {g : Nat} (hg : v.ownBlock = some g) : ∀ j x, l[j]? = some x → w.cell? ⟨g, j, none⟩ = some (.int .u8 (x.toNat : Int)) := by
  intro j x hx
  rcases h with ⟨rfl, _⟩ | ⟨g', cap, cur, fz, rfl, _, hgg, _, _, _, _, htake⟩
  · simp [Value.ownBlock] at hg
  · simp [Value.ownBlock] at hg
    subst hg
    have hu : (Lib.byteCells l)[j]? = some (.int .u8 (x.toNat : Int)) := by simp [Lib.byteCells, hx]
    rw [cell_of_row w g' j cur E fz hgg]
    rw [← htake, List.getElem?_take] at hu
    split at hu
    · simpa using hu
    · cases hu
theorem RowB.ne {B : Nat} {E : TypeId} {v : Value} {l : List UInt8} {w : World} (h : RowB B E v l w) (h0 : l ≠ []) : ∃ g cap, v = .slice (some ⟨g, 0, none⟩) l.length cap ∧ B ≤ g ∧ g < w.heap.size ∧ l.length ≤ cap ∧ cap ≤ maxLen := by
  rcases h with ⟨_, h⟩ | ⟨g, cap, cur, fz, rfl, hb, hgg, _, h1, h2, _⟩
  · exact absurd h h0
  · exact ⟨g, cap, rfl, hb, (Array.getElem?_eq_some_iff.1 hgg).1, h1, h2⟩
theorem byteCells_one (l : List UInt8) : ∀ u ∈ Lib.byteCells l, u.oneCell' = true := by
  intro u hu
  simp only [Lib.byteCells, List.mem_map] at hu
  obtain ⟨x, _, rfl⟩ := hu
  rfl
theorem RowB.bytes (w : World) (E : TypeId) (s : ByteArray) (hs : s.size ≤ maxLen) : RowB w.heap.size E (.slice (some ⟨w.heap.size, 0, none⟩) s.size (grownCap w s.size 0 E)) s.data.toList (Lib.bytesWorld w E s) := by
  have hge := grownCap_ge w s.size 0 E
  have hle := grownCap_le_maxLen w s.size 0 E hs
  have hl : s.data.toList.length = s.size := Array.length_toList
  have hc : (Lib.bytesCells w E s).size = grownCap w s.size 0 E := by
    unfold Lib.bytesCells
    rw [Array.size_append, Array.size_map, Array.size_replicate]
    have : s.data.size = s.size := rfl
    omega
  refine .inr ⟨w.heap.size, _, _, _, by rw [hl], Nat.le_refl _, Lib.bytesWorld_at_new w E s, fun i h1 h2 h3 => ?_, by rw [hl]; exact hge, hle, hc, ?_⟩
  · rw [hc] at h3; simp only at h3; omega
  · unfold Lib.bytesCells Lib.byteCells
    rw [Array.toList_append, Array.toList_map]
    rw [List.take_append_of_le_length (by simp)]
    rw [List.take_of_length_le (by simp)]
theorem RowB.bytesBelow (w : World) (E : TypeId) (s : ByteArray) : Below w.heap.size w (Lib.bytesWorld w E s) :=
  ⟨rfl, rfl, rfl, by rw [Lib.bytesWorld_size]; omega, fun i hi => Lib.bytesWorld_at_old _ _ _ _ hi⟩
theorem run_storeCells_free (g : Nat) (t : TypeId) (fz : Nat × Nat) : ∀ (vs : List Value) (o i : Nat) (cur : Array Value) (w : World), w.heap[g]? = some (.cells cur t fz) → (∀ k, o + i ≤ k → k < o + i + vs.length → fz.1 ≤ k → fz.2 ≤ k) → o + i + vs.length ≤ cur.size → (∀ v ∈ vs, v.oneCell' = true) →
    (storeCells ⟨g, o, none⟩ vs i).run P w = .ok () (w.setRow g (cur.toList.take (o + i) ++ vs ++ cur.toList.drop (o + i + vs.length)).toArray)
  | [], o, i, cur, w, hg, _, _, _ => by
    simp only [storeCells, List.append_nil, List.length_nil, Nat.add_zero, List.take_append_drop, Array.toArray_toList]
    rw [setRow_self w g cur t fz hg]
    rfl
  | v :: rest, o, i, cur, w, hg, hfz, hl, h1 => by
    have hi : o + i < cur.size := by simp at hl; omega
    have hadd : (⟨g, o, none⟩ : Addr).add i = ⟨g, o + i, none⟩ := by unfold Addr.add; split <;> simp_all
    have hcell : w.cell? ⟨g, o + i, none⟩ = some cur[o + i] := by simp [World.cell?, hg, hi]
    have hfro : w.frozen? ⟨g, o + i, none⟩ = false := by
      have := hfz (o + i) (Nat.le_refl _) (by simp)
      obtain ⟨lo, hi'⟩ := fz
      simp only [World.frozen?, hg, Bool.and_eq_false_iff, decide_eq_false_iff_not]
      simp only at this
      omega
    have hst : (store ((⟨g, o, none⟩ : Addr).add i) v).run P w = .ok () (w.setRow g (cur.setIfInBounds (o + i) v)) := by
      rw [hadd, run_store P w _ v _ (h1 v (by simp)), hcell]
      simp [hfro, setCell_eq_setRow w g (o + i) cur t fz v hg]
    have ih := run_storeCells_free g t fz rest o (i + 1) (cur.setIfInBounds (o + i) v) (w.setRow g (cur.setIfInBounds (o + i) v)) (setRow_heap w g cur _ t _ hg) (fun k hk1 hk2 => hfz k (by omega) (by simp at hk2 ⊢; omega)) (by simp at hl ⊢; omega) (fun x hx => h1 x (by simp [hx]))
    simp only [storeCells, Sem.run_bind, hst, Result.andThen_ok, ih, setRow_setRow]
    congr 3
    have e := list_seg_step cur.toList (o + i) v rest (by simp at hl ⊢; omega)
    simpa [Array.toList_setIfInBounds, Nat.add_assoc] using e
theorem run_append_rowB (w : World) (B : Nat) (t ty E : TypeId) (i : TypeInfo) (ht : P.underlying t = some (.slice E)) (hi : P.info? E = some i) (hz : i.zero = some (.int .u8 0)) (hsize : i.size = 1) (hby : i.bytes = 1)
    (v : Value) (l m : List UInt8) (hown : RowB B E v l w) (a : Addr) (c : Nat) (hnews : ∀ j x, m[j]? = some x → w.cell? (a.add j) = some (.int .u8 (x.toNat : Int)))
    (hlen : l.length + m.length ≤ 140737488355328) (hbase : B ≤ w.heap.size) :
    ∃ v' w', (Builtin.append_ #[t, t] ty #[v, .slice (some a) m.length c]).run P w = .ok v' w' ∧ RowB B E v' (l ++ m) w' ∧ w.grownBy w' v.ownBlock := by
  have hm63 : l.length + m.length ≤ maxLen := by unfold maxLen; omega
  have hnews' : ∀ j u, (Lib.byteCells m)[j]? = some u → w.cell? (a.add j) = some u := by
    intro j u hj
    simp only [Lib.byteCells, List.getElem?_map, Option.map_eq_some_iff] at hj
    obtain ⟨x, hx, rfl⟩ := hj
    exact hnews j x hx
  rcases hown with ⟨rfl, rfl⟩ | ⟨g, cap, cur, fz, rfl, hbg, hg, hfz, hnc, hcm, hcs, htake⟩
  · obtain ⟨v', w', r1, r2, r3, _⟩ := run_append_own (P := P) w B t ty E i (.int .u8 0) 1 1 ht hi hz hsize hby rfl (by decide) (.slice none 0 0) 0 [] ⟨rfl, .inl ⟨rfl, rfl⟩⟩ a m.length c (Lib.byteCells m) (by rw [Lib.byteCells_length, Nat.mul_one]) hnews' (byteCells_one m) (by simpa using hm63) (by simp at hlen; omega) hbase
    refine ⟨v', w', r1, ?_, r3⟩
    rcases r2.2 with ⟨rfl, h0⟩ | ⟨g, cap, cur, hv, hb, hg, hnc, hcm, hcs, htk⟩
    · exact .inl ⟨rfl, List.eq_nil_of_length_eq_zero (by simpa using h0)⟩
    · refine .inr ⟨g, cap, cur, (0, 0), by simpa using hv, hb, hg, fun _ _ _ _ => by omega, by simpa using hnc, hcm, by simpa using hcs, ?_⟩
      simpa using htk
  · have hsmall : l.length + m.length ≤ 9223372036854775807 := by omega
    by_cases hroom : l.length + m.length ≤ cap
    · have hf := run_firstCells_some (P := P) w 1 m.length a m.length c (Lib.byteCells m) (by rw [Lib.byteCells_length, Nat.mul_one]) hnews'
      have hst := run_storeCells_free (P := P) g E fz (Lib.byteCells m) (l.length * 1) 0 cur w hg (fun k hk1 hk2 => hfz k (by omega) (by rw [Lib.byteCells_length] at hk2; omega)) (by rw [Lib.byteCells_length]; omega) (byteCells_one m)
      simp only [Nat.add_zero, Nat.mul_one] at hst hf
      have hr : (Builtin.append_ #[t, t] ty #[.slice (some ⟨g, 0, none⟩) l.length cap, .slice (some a) m.length c]).run P w = .ok (.slice (some ⟨g, 0, none⟩) (l.length + m.length) cap) (w.setRow g (cur.toList.take l.length ++ Lib.byteCells m ++ cur.toList.drop (l.length + (Lib.byteCells m).length)).toArray) := by
        simp [Builtin.append_, run_underlying ht, sizeOf, typeInfo, hi, hsize, Builtin.lenOf, hroom, hf, Addr.add_lit, hst]
      refine ⟨_, _, hr, .inr ⟨g, cap, _, fz, by rw [List.length_append], hbg, setRow_heap w g cur _ E _ hg, fun k hk1 hk2 => hfz k (by rw [List.length_append] at hk1; omega) hk2, by rw [List.length_append]; exact hroom, hcm, ?_, ?_⟩, ⟨rfl, rfl, rfl, by simp, fun k _ hk => setRow_other w g k _ (fun e => hk (by simp [Value.ownBlock, e]))⟩⟩
      · simp only [List.size_toArray, List.length_append, List.length_take, List.length_drop, Array.length_toList, Lib.byteCells_length]
        omega
      · rw [htake, Lib.byteCells_append]
        have : (l ++ m).length = (Lib.byteCells l ++ Lib.byteCells m).length := by simp [Lib.byteCells_length]
        rw [this]
        exact List.take_left
    · have holds : ∀ j u, (Lib.byteCells l)[j]? = some u → w.cell? ((⟨g, 0, none⟩ : Addr).add j) = some u := by
        intro j u hj
        simp only [Lib.byteCells, List.getElem?_map, Option.map_eq_some_iff] at hj
        obtain ⟨x, hx, rfl⟩ := hj
        have hadd : (⟨g, 0, none⟩ : Addr).add j = ⟨g, j, none⟩ := by unfold Addr.add; split <;> simp_all
        rw [hadd]
        exact RowB.cells (B := B) (E := E) (v := .slice (some ⟨g, 0, none⟩) l.length cap) (.inr ⟨g, cap, cur, fz, rfl, hbg, hg, hfz, hnc, hcm, hcs, htake⟩) rfl j x hx
      have hr := run_append_grow (P := P) w t ty E i (.int .u8 0) ht hi hz ⟨g, 0, none⟩ l.length cap (Lib.byteCells l) (by rw [Lib.byteCells_length, hsize, Nat.mul_one]) holds a m.length c (Lib.byteCells m) (by rw [Lib.byteCells_length, hsize, Nat.mul_one]) hnews' (by omega) (by omega) (growslice_fits (by omega) (by rw [hby]; omega))
      have hge := grownCap_ge w (l.length + m.length) cap E
      have hcm2 : grownCap w (l.length + m.length) cap E ≤ maxLen := grownCap_le_maxLen w (l.length + m.length) cap E hm63
      refine ⟨_, _, hr, .inr ⟨w.heap.size, _, _, (0, 0), by rw [List.length_append], hbase, heap_alloc_new w.drew _, fun _ _ _ _ => by omega, by rw [List.length_append]; exact hge, hcm2, ?_, ?_⟩, ⟨rfl, rfl, rfl, by simp, fun k hk _ => Lib.alloc_old w.drew _ k hk⟩⟩
      · simp only [Array.size_append, List.size_toArray, size_zeroCells, Lib.byteCells_length]
        have : (Value.int IntKind.u8 0).cells.size = 1 := rfl
        rw [this]
        omega
      · simp only [Array.toList_append, List.append_assoc]
        rw [← List.append_assoc, ← Lib.byteCells_append]
        have : (l ++ m).length = (Lib.byteCells (l ++ m)).length := by rw [Lib.byteCells_length]
        rw [this]
        exact List.take_left
theorem wpList_append_rowB {ops : Array Oper} {rest : List Oper} {o : Oper} {a : Act} {w : World} {Q : Exit → Act → World → Prop} (hgd : o.guard = none) (s x : Operand) (t : TypeId)
    (ho : o.op = .call { callee := .builtin .append, args := #[s, x], argTypes := #[t, t] })
    (B : Nat) (E : TypeId) (i : TypeInfo) (ht : P.underlying t = some (.slice E)) (hi : P.info? E = some i) (hz : i.zero = some (.int .u8 0)) (hsize : i.size = 1) (hby : i.bytes = 1)
    (v : Value) (l m : List UInt8) (hs : a.eval s = v) (hown : RowB B E v l w) (ad : Addr) (c : Nat) (hx : a.eval x = .slice (some ad) m.length c) (hnews : ∀ j x, m[j]? = some x → w.cell? (ad.add j) = some (.int .u8 (x.toNat : Int)))
    (hlen : l.length + m.length ≤ 140737488355328) (hbase : B ≤ w.heap.size)
    (h : ∀ v' w', RowB B E v' (l ++ m) w' → w.grownBy w' v.ownBlock → wpList P ops Q rest (a.put o.dst v') w') : wpList P ops Q (o :: rest) a w := by
  refine wpList_plain hgd fun K hK => ?_
  obtain ⟨v', w', hr, h2, h3⟩ := run_append_rowB (P := P) w B t o.type E i ht hi hz hsize hby v l m hown ad c hnews hlen hbase
  unfold Oper.wp execOp
  simp only [ho, resolve, invoke, builtin, Sem.run_bind, Sem.run_pure, Result.andThen_ok, List.map_toArray, List.map_cons, List.map_nil, hs, hx, hr]
  exact hK _ _ (h v' w' h2 h3)
theorem run_string_bytes (w : World) (src dst E : TypeId) (hs : P.underlying src = some (.slice E)) (he : P.underlying E = some (.int .u8)) (hd : P.underlying dst = some .string) (g off cap : Nat) (l : List UInt8)
    (hc : ∀ j x, l[j]? = some x → w.cell? ⟨g, off + j, none⟩ = some (.int .u8 (x.toNat : Int))) :
    (convert src dst (.slice (some ⟨g, off, none⟩) l.length cap)).run P w = .ok (.string ⟨l.toArray⟩) w := by
  rw [run_convert_bytes_arg (P := P) w src E hs he g off l.length cap (l.map fun x => (x.toNat : Int)) (by simp) (fun i hi => by
    rw [hc i l[i] (List.getElem?_eq_getElem hi)]
    simp [List.getD_eq_getElem?_getD, List.getElem?_map, List.getElem?_eq_getElem hi]) dst hd]
  congr 3
  unfold strOfNums
  rw [List.map_map]
  exact congrArg (fun z : List UInt8 => (⟨z.toArray⟩ : ByteArray)) ((List.map_congr_left (fun x _ => by simp)).trans (List.map_id l))
end
end Go.Proofs.YtpgfafpjfdbjmaaDoor
end
section
namespace Go.Proofs.YtpgfafpjfdbjmaaDoor
open Go.RowKit
set_option maxHeartbeats 2000000 in
set_option maxRecDepth 100000 in
theorem bWrite (B b : Nat) (l m : List UInt8) (ad : Addr) (cp : Nat) (w : World) (h : Bd B b l w) (hm : ∀ (j : Nat) (x : UInt8), m[j]? = some x → w.cell? (ad.add j) = some (.int .u8 (x.toNat : Int))) (had : ad.block ≠ b) (hm0 : m ≠ []) (hlen : l.length + m.length ≤ 140737488355328) (hB : B ≤ w.heap.size) :
    Calls Tryd.prog 74 #[.pointer (some ⟨b, 0, none⟩), .slice (some ad) m.length cp] w fun e w' => e = .returned (.tuple #[.int .i64 m.length, .nilIface]) ∧ Bd B b (l ++ m) w' ∧ Bf B b w w' := by
  obtain ⟨i0, hi, hz0, hz1, hz2⟩ := info8
  have HH := Lib.hid h
  have HL := Lib.hid hlen
  have HB := Lib.hid hB
  have HM := Lib.hid hm
  have H0 := Lib.hid hm0
  have HD := Lib.hid had
  clear h hlen hB hm hm0 had
  go_enter Tryd.func74, Tryd.ntmps74
  go_wp2_with (go_at_call 80; refine (bcc B b l _ HH.out).mono ?_)
  rintro e w1 ⟨rfl, ⟨v, hA⟩, hcf⟩
  obtain ⟨T, hT, hbk, hown, hne, h00⟩ := hA
  have HA : Hid (BdAt B b (.pointer (some ⟨b, 0, none⟩)) v l w1) := Lib.hid ⟨T, hT, hbk, hown, hne, h00⟩
  have HCF := Lib.hid hcf
  clear hcf h00
  have c0 : w1.cell? ⟨b, 0, none⟩ = some (.pointer (some ⟨b, 0, none⟩)) := by rw [Lib.cell_of_heap hbk]; rfl
  have c1 : w1.cell? ⟨b, 1, none⟩ = some v := by rw [Lib.cell_of_heap hbk]; rfl
  go_wp2_with (at_builtin; refine wpList_append_ownF _ rfl _ _ 59 rfl B 5 i0 (.int .u8 0) 1 1 (by kernel_rfl) hi hz0 hz1 hz2 rfl (by decide) _ _ _ rfl hown ad m.length cp (Lib.byteCells m) rfl (by rw [Lib.byteCells_length, Nat.mul_one]) ?c1 ?c2 ?c3 ?c4 ?c5 ?_)
  case c1 =>
    intro j u hj
    have hcell : ∃ x, m[j]? = some x ∧ u = .int .u8 (x.toNat : Int) := by
      simp only [Lib.byteCells, List.getElem?_map, Option.map_eq_some_iff] at hj
      obtain ⟨x, hx, rfl⟩ := hj
      exact ⟨x, hx, rfl⟩
    obtain ⟨x, hx, rfl⟩ := hcell
    have h1 := HM.out j x hx
    have hb : (ad.add j).block = ad.block := by unfold Addr.add; split <;> rfl
    exact (World.cell?_of_block (HCF.out.block _ (by rw [hb]; exact HD.out))).trans h1
  case c2 => intro u hu; simp only [Lib.byteCells, List.mem_map] at hu; obtain ⟨x, _, rfl⟩ := hu; rfl
  case c3 => have := HL.out; unfold maxLen; omega
  case c4 => have := HL.out; omega
  case c5 => have := HB.out; have := HCF.out.size; omega
  intro v' w2 hown' hgrow hv'
  have hlt : b < w1.heap.size := (Array.getElem?_eq_some_iff.1 hbk).1
  have hb2 : w2.heap[b]? = some (.cells #[.pointer (some ⟨b, 0, none⟩), v] T (0, 0)) := by
    rw [hgrow.block b (by omega) (fun e => hne e.symm)]
    exact hbk
  have d0 : w2.cell? ⟨b, 0, none⟩ = some (.pointer (some ⟨b, 0, none⟩)) := by rw [Lib.cell_of_heap hb2]; rfl
  have d1 : w2.cell? ⟨b, 1, none⟩ = some v := by rw [Lib.cell_of_heap hb2]; rfl
  have f1 : w2.frozen? ⟨b, 1, none⟩ = false := Lib.frozen_of_heap hb2 1
  have hm1 : m.length ≠ 0 := by have := H0.out; simpa using this
  have HP : Hid (BdAt B b (.pointer (some ⟨b, 0, none⟩)) v' (l ++ m) (w2.setCell ⟨b, 1, none⟩ v')) := Lib.hid (BdAt.put hT hb2 (by rw [List.length_append, Lib.byteCells_append]; exact hown') (by intro e; exact absurd (List.append_eq_nil_iff.1 e).2 H0.out))
  have HQ : Hid (Bf B b w (w2.setCell ⟨b, 1, none⟩ v')) := Lib.hid (Bf.write (l := l) HCF.out HB.out (Below.refl _ _) hown hgrow)
  obtain ⟨g, cap, rfl⟩ : ∃ g cap, v' = .slice (some ⟨g, 0, none⟩) (l.length + m.length) cap := by
    rcases hown'.2 with ⟨_, h0⟩ | ⟨g, cap, cur, fz, hv, _⟩
    · omega
    · exact ⟨g, cap, hv⟩
  clear hv' hgrow hown' hown hbk hb2 hm1
  go_wp2
  go_ret2
  exact ⟨rfl, ⟨_, _, .inr rfl, HP.out⟩, HQ.out⟩
end Go.Proofs.YtpgfafpjfdbjmaaDoor
end
section
namespace Go.Proofs.YtpgfafpjfdbjmaaDoor
open Go.RowKit Q Go.Proofs.YtpgfafpjfdbjmaaDoorW.PrintWords Go.Proofs.YtpgfafpjfdbjmaaDoorW.PrintLast Go.Proofs.YtpgfafpjfdbjmaaDoorW.PrintMore
theorem row_len {B : Nat} {E : TypeId} {v : Value} {l : List UInt8} {w : World} (h : RowB B E v l w) {L : Nat} (hL : l.length = L + 1) : ∃ g cap, v = .slice (some ⟨g, 0, none⟩) (L + 1) cap := by
  obtain ⟨g, cap, hv, _⟩ := h.ne (by intro h0; rw [h0] at hL; cases hL)
  exact ⟨g, cap, by rw [hv, hL]⟩
theorem RowB.past {B : Nat} {E : TypeId} {v : Value} {l : List UInt8} {w : World} (h : RowB B E v l w) {g : Nat} (hne : ∀ k, v.ownBlock = some k → k ≠ g) (c : Array Value) : RowB B E v l (w.setRow g c) :=
  h.keep (fun k hk => setRow_other w g k c (hne k hk))
theorem conv_run (ev : Operand → Value) (x : Operand) (g off cap : Nat) (l : List UInt8) (s : ByteArray) (W : World) (hs : (⟨l.toArray⟩ : ByteArray) = s) (hc : ∀ j x, l[j]? = some x → W.cell? ⟨g, off + j, none⟩ = some (.int .u8 (x.toNat : Int))) {n : Nat} (hn : l.length = n) (hx : ev x = .slice (some ⟨g, off, none⟩) n cap) {o : Oper} (ho : o.op = .convert 59 9 x) :
    (execOp ev o).run Tryd.prog W = .ok (.value (.string s)) W := by
  subst hs hn
  unfold execOp
  simp only [ho, hx, Sem.run_bind, Result.andThen_ok, run_string_bytes W 59 9 5 Tryd.underlying59 Tryd.underlying5 Tryd.underlying9 g off cap l hc, Sem.run_pure]
def be4 (x : Int) : List UInt8 := [UInt8.ofNat (x / 16777216 % 256).toNat, UInt8.ofNat (x / 65536 % 256).toNat, UInt8.ofNat (x / 256 % 256).toNat, UInt8.ofNat (x % 256).toNat]
def outk (l : List Int) : Nat → List UInt8
  | 0 => []
  | k + 1 => outk l k ++ be4 (l.getD k 0)
theorem outk_len (l : List Int) (k : Nat) : (outk l k).length = 4 * k := by
  induction k with
  | zero => rfl
  | succ k ih => rw [outk, List.length_append, ih]; simp [be4]; omega
theorem be_byte (x : Int) : ((UInt8.ofNat (x % 256).toNat).toNat : Int) = x % 256 := by
  rw [UInt8.toNat_ofNat', Nat.mod_eq_of_lt (by omega)]
  omega
set_option maxRecDepth 100000 in
theorem index_word (y : V8) (k : Nat) (hk : k < 8) (W : World) : (Instr.index 115 (.agg y.cells) (.int .i64 (k : Int))).run Tryd.prog W = .ok (.int .u32 (y.l.getD k 0)) W := by
  match k, hk with
  | 0, _ => rfl
  | 1, _ => rfl
  | 2, _ => rfl
  | 3, _ => rfl
  | 4, _ => rfl
  | 5, _ => rfl
  | 6, _ => rfl
  | 7, _ => rfl
def pz (m : Nat) : Nat := (120 - m % 64) % 64
def szb (n : Nat) : Nat → List UInt8
  | 0 => []
  | j + 1 => szb n j ++ [UInt8.ofNat (n * 8 / 2 ^ (8 * (7 - j)) % 256)]
theorem szb_len (n j : Nat) : (szb n j).length = j := by
  induction j with
  | zero => rfl
  | succ j ih => rw [szb, List.length_append, ih]; rfl
def fill0 (r : ByteArray) : List UInt8 := r.data.toList ++ [128]
def fill1 (r : ByteArray) : List UInt8 := fill0 r ++ List.replicate (pz (fill0 r).length) 0
def fill2 (r : ByteArray) (n : Nat) : List UInt8 := fill1 r ++ szb n 8
theorem fill2_64 (r : ByteArray) (n : Nat) : 64 * ((fill2 r n).length / 64) = (fill2 r n).length := by
  unfold fill2 fill1
  rw [List.length_append, List.length_append, szb_len, List.length_replicate]
  unfold pz
  omega
set_option maxRecDepth 100000 in
set_option maxHeartbeats 1000000 in
theorem dsum_calls (g : Nat) (x : V8) (r : ByteArray) (n : Nat) (w : World) (h : DSt w g x r n) (hr : r.size ≤ 64) (hn : n ≤ 140737488355328) :
    Calls Tryd.prog 50 #[.pointer (some ⟨g, 0, none⟩)] w fun e w' => e = .returned (.string ⟨(outk (fd x ⟨(fill2 r n).toArray⟩ ((fill2 r n).length / 64)).l 8).toArray⟩) ∧ Below w.heap.size w w' := by
  obtain ⟨i0, hi, hz0, hz1, hz2⟩ := info8
  have HD := Aside0.mk h
  have HG := Aside0.mk h.lt
  have c8 := h.c8
  clear h
  have hcv := fun (W : World) => Lib.run_convert_string_bytes (P := Tryd.prog) W 9 59 5 (r ++ ⟨#[128]⟩) Tryd.underlying9 Tryd.underlying59 Tryd.underlying5
  have hsz : (r ++ ⟨#[128]⟩ : ByteArray).size = r.size + 1 := by rw [ByteArray.size_append]; rfl
  have hR := RowB.bytes w 5 (r ++ ⟨#[128]⟩) (by rw [hsz]; unfold maxLen; omega)
  have hBel := RowB.bytesBelow w 5 (r ++ ⟨#[128]⟩)
  have e0 : (r ++ ⟨#[128]⟩ : ByteArray).data.toList = fill0 r := by
    show (ByteArray.append r ⟨#[128]⟩).data.toList = _
    simp [fill0, ByteArray.append_eq]
  rw [e0] at hR
  have hl0 : (fill0 r).length = r.size + 1 := by rw [← e0, Array.length_toList]; exact hsz
  have G1 := Aside0.mk hR
  have G2 := Aside0.mk hBel
  have G3 := Lib.hid hl0
  clear hR hBel hl0 e0
  go_enter Tryd.func50, Tryd.ntmps50
  go_wp2_with fail
  have G2 := G2.out
  have G1 := G1.out
  rw [hsz] at G1
  have HZ : pz (r.size + 1) < 64 := by unfold pz; omega
  generalize Lib.bytesWorld w 5 (r ++ ⟨#[128]⟩) = w1 at *
  generalize grownCap w (r.size + 1) 0 5 = cap1 at *
  have G1 := Aside0.mk G1
  have G2 := Aside0.mk G2
  clear hcv c8 hsz
  go_loopg [3] (pz (r.size + 1)) (fun m v wr => ∃ g1 cap j L : Nat, v = .slice (some ⟨g1, 0, none⟩) L cap ∧ L ≤ 200 ∧ Aside0 (j + m = pz (r.size + 1) ∧ L = r.size + 1 + j) ∧ Aside0 (RowB w.heap.size 5 (.slice (some ⟨g1, 0, none⟩) L cap) (fill0 r ++ List.replicate j 0) wr) ∧ Aside0 (Below w.heap.size w wr))
  case atStart => exact ⟨_, _, 0, _, rfl, by omega, ⟨by omega, by omega⟩, ⟨by rw [List.replicate_zero, List.append_nil]; exact G1.out⟩, G2⟩
  case round =>
    clear G1 G2
    obtain ⟨g1, cap, j, L, rfl, hL, HJ, G1, G2⟩ := hrel
    by_cases hm : gk = 0
    · have t1 : (L : Int) % 64 = 56 := by have := HJ.out; unfold pz at this; omega
      have t2 : ((L : Int) % 64 == 56) = true := by rw [t1]; rfl
      have t3 : ((L : Int) % 64 != 56) = false := by rw [t1]; rfl
      clear t1
      go_wp2_with fail
      have hj : j = pz (r.size + 1) ∧ L = r.size + 1 + pz (r.size + 1) := by have := HJ.out; omega
      obtain ⟨rfl, hLe⟩ := hj
      have G1 : Aside0 (RowB w.heap.size 5 (.slice (some ⟨g1, 0, none⟩) L cap) (fill1 r ++ szb n 0) wr) := ⟨by
        have := G1.out
        unfold fill1 szb
        rw [List.append_nil, G3.out]
        exact this⟩
      have hF1 : Hid ((fill1 r).length = L) := Lib.hid (by unfold fill1; rw [List.length_append, List.length_replicate, G3.out, hLe])
      clear HJ t2 t3 hLe hm
      go_loopg [3, 4] 8 (fun m v i wr => ∃ g1 cap j L' : Nat, ∃ q : Int, v = .slice (some ⟨g1, 0, none⟩) L' cap ∧ i = .int .i64 q ∧ L' ≤ 208 ∧ Aside0 (j + m = 8 ∧ L' = L + j ∧ q = (m : Int) - 1) ∧ Aside0 (RowB w.heap.size 5 (.slice (some ⟨g1, 0, none⟩) L' cap) (fill1 r ++ szb n j) wr) ∧ Aside0 (Below w.heap.size w wr))
      case atStart => exact ⟨_, _, 0, _, _, rfl, rfl, by omega, ⟨by omega, by omega, by omega⟩, G1, G2⟩
      case round =>
        clear G1 G2
        obtain ⟨g2, cap2, j, L', q, rfl, rfl, hL', HJ, G1, G2⟩ := hrel
        by_cases hm : gk = 0
        · obtain rfl : q = -1 := by have := HJ.out; omega
          have hz8 := zero8
          have hDw := HD.out.keep G2.out
          have HDw := Aside0.mk hDw
          clear hDw
          go_wp2_with (first | (refine gate_ (.load 115 (.tmp 43)) rfl ?_; refine wpList_load_mid rfl 115 (.tmp 43) rfl g 0 rfl x.cells.toList _ HDw.out.range Tryd.underlying115 rfl (by rw [size8]; rfl) ?_; simp only [Act.put, List.setIfInBounds_toArray, List.set_cons_zero, List.set_cons_succ, Array.toArray_toList]) | (refine gate_ (.store 115 (.tmp 5) (.tmp 44)) rfl ?_; refine wpList_plain rfl (fun K hK => ?_); refine wp_store_row 115 (.tmp 5) (.tmp 44) rfl wr.heap.size x.cells rfl rfl 115 (arr .u32 (zs 8)) (heap_alloc_new wr _) (by rw [size8]; rfl) rfl (arr_one .u32 x.l) (hK _ _ ?_); rw [setRow_new]; clear hK K; simp only [Act.put]))
          have hjL : j = 8 ∧ L' = L + 8 := by have := HJ.out; omega
          obtain ⟨rfl, hLe⟩ := hjL
          have HP : Aside0 (RowB w.heap.size 5 (.slice (some ⟨g2, 0, none⟩) L' cap2) (fill2 r n) (wr.alloc (.cells x.cells 115))) := ⟨G1.out.alloc _⟩
          have HS : Aside0 (Row (wr.alloc (.cells x.cells 115)) wr.heap.size 115 (fd x ⟨(fill2 r n).toArray⟩ 0).l) := ⟨Row.new wr 115 x.l⟩
          have HB : Aside0 (Below w.heap.size w (wr.alloc (.cells x.cells 115))) := ⟨G2.out.alloc G2.out.size _⟩
          have hgs : g2 < wr.heap.size := (G1.out.lt g2 rfl).2
          have hgB : w.heap.size ≤ wr.heap.size := G2.out.size
          have hlen : (fill2 r n).length = L' := by unfold fill2; rw [List.length_append, szb_len, hF1.out, hLe]
          have hL64 : 64 * (L' / 64) = L' := by
            have := fill2_64 r n
            rw [hlen] at this
            exact this
          have hcap : L' ≤ cap2 := by
            obtain ⟨_, _, hv, _, _, h1, _⟩ := G1.out.ne (by intro h0; have := congrArg List.length h0; unfold fill1 fill0 at this; simp at this)
            simp only [Value.slice.injEq] at hv
            omega
          have Hlen := Lib.hid hlen
          have HL64 := Lib.hid hL64
          clear G1 G2 HDw HJ hlen hL64 hm hLe
          generalize hWR : wr.alloc (.cells x.cells 115) = w1 at *
          clear hWR
          generalize wr.heap.size = gs at *
          generalize hPL : fill2 r n = PL at *
          have HPL := Lib.hid hPL
          clear hPL
          go_loopg [3] (L' / 64) (fun m v wr => ∃ (A : Option Addr) (k O M c : Nat), v = .slice A M c ∧ M ≤ 208 ∧ M ≤ c ∧ Aside0 (k + m = L' / 64 ∧ M = 64 * m ∧ O = 64 * k ∧ (m ≠ 0 → A = some ⟨g2, O, none⟩)) ∧ Aside0 (RowB w.heap.size 5 (.slice (some ⟨g2, 0, none⟩) L' cap2) PL wr) ∧ Aside0 (Row wr gs 115 (fd x ⟨PL.toArray⟩ k).l) ∧ Aside0 (Below w.heap.size w wr))
          case atStart => exact ⟨_, 0, 0, _, _, rfl, by omega, by omega, ⟨by omega, by have := HL64.out; omega, by omega, fun _ => rfl⟩, HP, HS, HB⟩
          case round =>
            clear HP HS HB
            obtain ⟨A, k, O, M, c, rfl, hM, hMc, HJ, G1, HS, G2⟩ := hrel
            by_cases hm : gk = 0
            · obtain rfl : M = 0 := by have := HJ.out; omega
              obtain rfl : k = L' / 64 := by have := HJ.out.1; omega
              clear HJ hm
              generalize hY : fd x ⟨PL.toArray⟩ (L' / 64) = y at *
              have HY := Lib.hid hY
              clear hY
              have HSa := HS.out.alloc (.cells #[.pointer none, .slice none 0 0] 101)
              go_wp2_with (refine gate_ (.load 115 (.tmp 5)) rfl ?_; refine wpList_load_row rfl 115 (.tmp 5) rfl gs rfl _ y.cells (0, 0) _ HSa Tryd.underlying115 rfl size8 ?_; simp only [Act.put, List.setIfInBounds_toArray, List.set_cons_zero, List.set_cons_succ])
              have HD0 : Aside0 (Bd (wr.heap.size + 1) wr.heap.size [] (wr.alloc (.cells #[.pointer none, .slice none 0 0] 101))) := ⟨Bd.new _ wr⟩
              have HF0 : Aside0 (Bf (wr.heap.size + 1) wr.heap.size (wr.alloc (.cells #[.pointer none, .slice none 0 0] 101)) (wr.alloc (.cells #[.pointer none, .slice none 0 0] 101))) := ⟨Bf.refl _ _ _⟩
              have HS0 : Aside0 ((wr.alloc (.cells #[.pointer none, .slice none 0 0] 101)).heap.size = wr.heap.size + 1) := ⟨by simp⟩
              have HB0 : Aside0 (Below w.heap.size w (wr.alloc (.cells #[.pointer none, .slice none 0 0] 101))) := ⟨G2.out.alloc G2.out.size _⟩
              have hBs := G2.out.size
              clear HSa HS G1 G2
              generalize wr.alloc (.cells #[.pointer none, .slice none 0 0] 101) = w2 at *
              generalize wr.heap.size = bb at *
              go_loopw [56] (fun i wr => ∃ k : Nat, k ≤ 8 ∧ i = .int .i64 k ∧ Aside0 (Bd (bb + 1) bb (outk y.l k) wr) ∧ Aside0 (Bf (bb + 1) bb w2 wr)) (fun i _ => 8 - (intOf i).toNat)
              case atStart => exact ⟨0, by omega, rfl, HD0, HF0⟩
              case round =>
                clear HD0 HF0
                obtain ⟨k, hk, rfl, HD0, HF0⟩ := hrel
                by_cases hlt : k < 8
                · have hix := index_word y k hlt
                  have hOk : Hid (outk y.l (k + 1) = outk y.l k ++ be4 (y.l.getD k 0)) := Lib.hid rfl
                  have hOl := outk_len y.l k
                  generalize y.l.getD k 0 = xx at *
                  have hbs : bb + 1 ≤ wr.heap.size := by have := HS0.out; have := HF0.out.size; omega
                  go_wp2_with (fail)
                  refine Calls.mono (bWrite (bb + 1) bb (outk y.l k) (be4 xx) _ _ _ (HD0.out.keep (below_alloc (Below.refl _ _) _)) ?_ ?_ ?_ ?_ ?_) ?_
                  · intro j z hz
                    match j, hz with
                    | 0, hz => simp only [be4, List.getElem?_cons_zero, Option.some.injEq] at hz; subst hz; rw [be_byte]; simp [Addr.add]
                    | 1, hz => simp only [be4, List.getElem?_cons_zero, List.getElem?_cons_succ, Option.some.injEq] at hz; subst hz; rw [be_byte]; simp [Addr.add]
                    | 2, hz => simp only [be4, List.getElem?_cons_zero, List.getElem?_cons_succ, Option.some.injEq] at hz; subst hz; rw [be_byte]; simp [Addr.add]
                    | 3, hz => simp only [be4, List.getElem?_cons_zero, List.getElem?_cons_succ, Option.some.injEq] at hz; subst hz; rw [be_byte]; simp [Addr.add]
                    | j + 4, hz => simp [be4] at hz
                  · show wr.heap.size ≠ bb
                    omega
                  · simp [be4]
                  · rw [hOl]; simp [be4]; omega
                  · simp; omega
                  rintro e w3 ⟨rfl, hD3, hF3⟩
                  rw [← hOk.out] at hD3
                  have hF4 := HF0.out.trans ((Bf.of_below (below_alloc (Below.refl _ _) _) hbs).trans hF3)
                  have HD0 := Aside0.mk hD3
                  have HF0 := Aside0.mk hF4
                  clear hD3 hF3 hF4 hix
                  go_wp2_with fail
                  go_roundw
                  case rel => exact ⟨k + 1, by omega, by go_num, HD0, HF0⟩
                  case measure => simp [intOf]; omega
                · obtain rfl : k = 8 := by omega
                  go_wp2_with (fail)
                  have hh := bString (bb + 1) bb (outk y.l 8) wr HD0.out
                  refine Calls.mono hh ?_
                  clear hh
                  rintro e w3 ⟨rfl, hF3⟩
                  go_wp2_with fail
                  go_ret
                  rw [HPL.out, Hlen.out, HY.out]
                  exact ⟨rfl, HB0.out.trans ((HF0.out.trans hF3).below (by omega) (by omega))⟩
            · obtain ⟨m, rfl⟩ : ∃ m, gk = m + 1 := ⟨gk - 1, by omega⟩
              obtain ⟨hk, hM', hO, hA⟩ := HJ.out
              obtain rfl := hA (by omega)
              have hM64 : (64 : Int) ≤ (M : Int) := by omega
              have hc64 : (64 : Int) ≤ (c : Int) := by omega
              have hcx : ∀ (j : Nat) (x : UInt8), ((PL.drop (64 * k)).take 64)[j]? = some x → PL[O + j]? = some x := by
                intro j x hx
                rw [List.getElem?_take] at hx
                split at hx
                · rw [List.getElem?_drop, ← hO] at hx; exact hx
                · cases hx
              have hchl : ((PL.drop (64 * k)).take 64).length = 64 := by
                rw [List.length_take, List.length_drop]
                have := Hlen.out
                have := HL64.out
                omega
              have hchunk : (⟨((PL.drop (64 * k)).take 64).toArray⟩ : ByteArray) = (⟨PL.toArray⟩ : ByteArray).extract (64 * k) (64 * k + 64) := by
                have := B_extract PL (64 * k) (64 * k + 64)
                rw [Nat.add_sub_cancel_left] at this
                exact this.symm
              have hb64 : ((⟨PL.toArray⟩ : ByteArray).extract (64 * k) (64 * k + 64)).size = 64 := by
                rw [← hchunk]
                show ((PL.drop (64 * k)).take 64).toArray.size = 64
                rw [List.size_toArray, hchl]
              have Hhk := Lib.hid hk
              have HhM := Lib.hid hM'
              have HhO := Lib.hid hO
              have Hcx := Lib.hid hcx
              have Hchl := Lib.hid hchl
              have Hchk := Lib.hid hchunk
              have Hb64 := Lib.hid hb64
              have hfd : Hid (fd x ⟨PL.toArray⟩ (k + 1) = bv (fd x ⟨PL.toArray⟩ k) ((⟨PL.toArray⟩ : ByteArray).extract (64 * k) (64 * k + 64))) := Lib.hid rfl
              clear hk hM' hO hA hcx hchl hchunk hb64 hm HJ
              generalize fd x ⟨PL.toArray⟩ k = y at *
              generalize (⟨PL.toArray⟩ : ByteArray).extract (64 * k) (64 * k + 64) = pb at *
              go_wp2_with (fail)
              refine start_ (n := 9) (S := fun w' => Row w' gs 115 y.l ∧ Aside0 (RowB w.heap.size 5 (.slice (some ⟨g2, 0, none⟩) L' cap2) PL w') ∧ Aside0 (Below w.heap.size w w')) (ds := [7]) #[false, false, false, false, false, false, false, false, false] (by kernel_rfl) rfl rfl ⟨(Row.drewN HS.out 1), ⟨G1.out⟩, ⟨Below.drew G2.out⟩⟩ (fun hHeld => ?_)
              refine pure_ (i := 1) (N := some 49) (v := ?_) (a' := ?_) #[false, true, false, false, false, false, false, false, false] rfl rfl (by kernel_rfl) (fun _ _ _ h => h) (Or.inl ⟨by rfl, ?_⟩) ?_ ?_
              rotate_left
              · intro w'
                go_simp
                with_reducible rfl
              rotate_left
              · simp only [Act.put, List.setIfInBounds_toArray, List.set_cons_zero, List.set_cons_succ]
                rfl
              refine pure_ (i := 2) (N := some 50) (v := ?_) (a' := ?_) #[false, true, true, false, false, false, false, false, false] rfl rfl (by kernel_rfl) (fun _ _ _ h => h) (Or.inl ⟨by rfl, ?_⟩) ?_ ?_
              rotate_left
              · intro w'
                go_simp
                with_reducible rfl
              rotate_left
              · simp only [Act.put, List.setIfInBounds_toArray, List.set_cons_zero, List.set_cons_succ]
                rfl
              refine pure_ (i := 5) (N := some 53) (v := ?_) (a' := ?_) #[false, true, true, false, false, true, false, false, false] rfl rfl (by kernel_rfl) (fun _ _ _ h => h) (Or.inl ⟨by rfl, ?_⟩) ?_ ?_
              rotate_left
              · intro w'
                go_simp
                with_reducible rfl
              rotate_left
              · simp only [Act.put, List.setIfInBounds_toArray, List.set_cons_zero, List.set_cons_succ]
                rfl
              refine pure_ (i := 6) (N := some 54) (v := ?_) (a' := ?_) #[false, true, true, false, false, true, true, false, false] rfl rfl (by kernel_rfl) (fun _ _ _ h => h) (Or.inl ⟨by rfl, ?_⟩) ?_ ?_
              rotate_left
              · intro w'
                go_simp
                with_reducible rfl
              rotate_left
              · simp only [Act.put, List.setIfInBounds_toArray, List.set_cons_zero, List.set_cons_succ]
                rfl
              refine take_ (i := 0) (N := some 48) (v := ?_) (a' := ?_) #[true, true, true, false, false, true, true, false, false] rfl rfl (by kernel_rfl) (fun _ _ _ h => h) (Or.inl ⟨by rfl, ?_⟩) hHeld ?_ ?_
              rotate_left
              · rintro w' ⟨s0, s1, s2⟩
                refine load_run _ 115 (.tmp 5) gs _ _ _ s0 Tryd.underlying115 size8 ?_ ?_ <;> rfl
              rotate_left
              · simp only [Act.put, List.setIfInBounds_toArray, List.set_cons_zero, List.set_cons_succ]
                rfl
              refine take_ (i := 3) (N := some 51) (v := ?_) (a' := ?_) #[true, true, true, true, false, true, true, false, false] rfl rfl (by kernel_rfl) (fun _ _ _ h => h) (Or.inl ⟨by rfl, ?_⟩) hHeld ?_ ?_
              rotate_left
              · rintro w' ⟨s0, s1, s2⟩
                refine conv_run _ (.tmp 50) g2 O c ((PL.drop (64 * k)).take 64) pb _ Hchk.out (fun j x hx => ?_) Hchl.out ?_ ?_
                · exact s1.out.cells (g := g2) rfl (O + j) x (Hcx.out j x hx)
                · rfl
                · rfl
              rotate_left
              · simp only [Act.put, List.setIfInBounds_toArray, List.set_cons_zero, List.set_cons_succ]
                rfl
              refine one_ (i := 4) (N := some 52) #[true, true, true, true, true, true, true, false, false] rfl rfl (by kernel_rfl) (by decide) (fun K hK => ?_)
              refine goes_ Tryd.func73 (by kernel_rfl) rfl #[.agg y.cells, .string pb] (by rfl) rfl rfl (by simp only [List.map_toArray, List.map_cons, List.map_nil]; rfl) ?_
              with_reducible refine (block_any y _ Hb64.out _).mono ?_
              rintro e w3 ⟨rfl, hb⟩
              refine ⟨_, rfl, ?_⟩
              have HS3 := hHeld.1.keep hb
              have G13 := hHeld.2.1.out.below hb
              have G23 := below2 hHeld.2.2.out hHeld.2.2.out.size hb
              refine hK.out _ _ ⟨HS3, ⟨G13⟩, ⟨G23⟩⟩ (fun hHeld => ?_)
              clear hK K
              refine norm_ (a' := ?_) ?_ ?_
              rotate_left
              · show Act.put _ (some 52) _ = _
                simp only [Act.put, List.setIfInBounds_toArray, List.set_cons_zero, List.set_cons_succ]
                rfl
              refine last_ (i := 7) (N := none) #[true, true, true, true, true, true, true, true, false] rfl rfl (by kernel_rfl) (by decide) (fun K hK => ?_)
              refine skip_ (by rfl) rfl (store_run _ 115 (.tmp 5) (.tmp 52) gs _ hHeld.1 (ys := (bv y pb).l) size8 rfl rfl rfl rfl) ?_
              have HS := Aside0.mk (hHeld.1.put (bv y pb).l)
              have G1 := Aside0.mk (hHeld.2.1.out.past (g := gs) (fun i hi' => (show g2 = i by simpa [Value.ownBlock] using hi') ▸ (by omega : g2 ≠ gs)) (arr .u32 (bv y pb).l))
              have G2 := Aside0.mk (below_setRow hHeld.2.2.out (hgB) (arr .u32 (bv y pb).l))
              clear hHeld HS3 G13 G23 hb
              generalize w3.setRow gs (arr .u32 (bv y pb).l) = w4 at *
              refine hK.out _ _ ?_
              clear hK K
              refine pure_ (i := 8) (N := some 3) (v := ?_) (a' := ?_) #[true, true, true, true, true, true, true, true, true] rfl rfl (by kernel_rfl) (fun _ _ _ h => h) (Or.inl ⟨by rfl, ?_⟩) ?_ ?_
              rotate_left
              · intro w'
                go_simp
                with_reducible rfl
              rotate_left
              · simp only [Act.put, List.setIfInBounds_toArray, List.set_cons_zero, List.set_cons_succ]
                rfl
              refine done_ (by kernel_rfl) ?_
              go_wp2_with fail
              all_goals
                go_roundg m
                case measure => omega
                case rel =>
                  refine ⟨_, k + 1, O + 64, _, _, rfl, by omega, by omega, ⟨by have := Hhk.out; omega, by have := HhM.out; omega, by have := HhO.out; omega, fun h0 => ?_⟩, G1, ⟨by rw [hfd.out]; exact HS.out⟩, G2⟩
                  first | rfl | (exfalso; have := HhM.out; omega)
        · obtain ⟨k, rfl⟩ : ∃ k : Nat, gk = k + 1 := ⟨gk - 1, by omega⟩
          obtain rfl : q = (k : Int) := by have := HJ.out; omega
          have hk7 : (k : Int) ≤ 7 := by have := HJ.out; omega
          have c9 := (HD.out.keep G2.out).c9
          have hw1 : IntKind.u64.wrap (n : Int) = (n : Int) := by rw [IntKind.wrap_u64]; omega
          have hw2 : IntKind.u64.wrap ((n : Int) * 8) = (n : Int) * 8 := by rw [IntKind.wrap_u64]; omega
          have hw3 : IntKind.i64.wrap (8 * (k : Int)) = 8 * (k : Int) := IntWalk.i64_in _ (by omega)
          have hj : j + k = 7 := by have := HJ.out; omega
          have hbv : ((UInt8.ofNat (n * 8 / 2 ^ (8 * k) % 256)).toNat : Int) = (n : Int) * 8 / 2 ^ (8 * k) % 256 := by
            rw [UInt8.toNat_ofNat', Nat.mod_eq_of_lt (Nat.mod_lt _ (by decide))]
            push_cast
            rfl
          have Hbv := Lib.hid hbv
          have HL1 : Hid ((fill1 r ++ szb n j).length = L') := Lib.hid (by rw [List.length_append, hF1.out, szb_len]; have := HJ.out; omega)
          have hS : Hid (fill1 r ++ szb n (j + 1) = (fill1 r ++ szb n j) ++ [UInt8.ofNat (n * 8 / 2 ^ (8 * k) % 256)]) := Lib.hid (by rw [szb, show 7 - j = k by omega, List.append_assoc])
          clear hbv
          go_wp2_with (at_builtin; refine wpList_append_rowB rfl _ _ 59 rfl w.heap.size 5 i0 (by kernel_rfl) hi hz0 hz1 hz2 _ _ [UInt8.ofNat (n * 8 / 2 ^ (8 * k) % 256)] rfl (G1.out.alloc _) ⟨wr.heap.size, 0, none⟩ 1 rfl ?c1 ?c2 ?c3 ?_)
          case c1 =>
            intro j u hj
            match j, hj with
            | 0, hj =>
              simp only [List.getElem?_cons_zero, Option.some.injEq] at hj
              subst hj
              rw [Hbv.out]
              simp [Addr.add]
          case c2 => have := HL1.out; simp only [List.length_cons, List.length_nil]; omega
          case c3 => have := G2.out.size; simp; omega
          intro v' w2 hown' hgrow
          rw [← List.append_assoc] at hown'
          obtain ⟨g3, cap3, rfl⟩ := row_len hown' (L := L') (by rw [List.length_append, HL1.out]; rfl)
          have G2 := Aside0.mk ((G2.out.alloc G2.out.size _).grown hgrow (by have := G2.out.size; simp; omega) (fun k hk => (G1.out.lt k hk).1))
          have G1 := Aside0.mk hown'
          clear hown' hgrow c9 hw1 hw2
          have hw4 : IntKind.i64.wrap ((k : Int) - 1) = (k : Int) - 1 := IntWalk.i64_in _ (by omega)
          go_wp2
          go_roundg k
          case measure => omega
          case rel => exact ⟨_, _, j + 1, _, _, rfl, rfl, by have := HJ.out; omega, ⟨by have := HJ.out; omega⟩, ⟨by rw [hS.out]; exact G1.out⟩, G2⟩
    · have t1 : ¬ (L : Int) % 64 = 56 := by have := HJ.out; unfold pz at this; omega
      have t2 : ((L : Int) % 64 == 56) = false := by simpa using t1
      have t3 : ((L : Int) % 64 != 56) = true := by simp [bne, t2]
      clear t1
      have hl1 : (fill0 r ++ List.replicate j 0).length = L := by rw [List.length_append, List.length_replicate, G3.out]; have := HJ.out; omega
      have HL1 := Lib.hid hl1
      clear hl1
      go_wp2_with (at_builtin; refine wpList_append_rowB rfl _ _ 59 rfl w.heap.size 5 i0 (by kernel_rfl) hi hz0 hz1 hz2 _ _ [0] rfl (G1.out.alloc _) ⟨wr.heap.size, 0, none⟩ 1 rfl ?c1 ?c2 ?c3 ?_)
      case c1 =>
        intro j u hj
        match j, hj with
        | 0, hj => simp at hj; subst hj; simp [Addr.add]
      case c2 => have := HL1.out; simp only [List.length_cons, List.length_nil]; omega
      case c3 => have := G2.out.size; simp; omega
      intro v' w2 hown' hgrow
      rw [← List.append_assoc] at hown'
      obtain ⟨g2, cap2, rfl⟩ := row_len hown' (L := L) (by rw [List.length_append, HL1.out]; rfl)
      have G2 := Aside0.mk ((G2.out.alloc G2.out.size _).grown hgrow (by have := G2.out.size; simp; omega) (fun k hk => (G1.out.lt k hk).1))
      have G1 := Aside0.mk hown'
      clear hown' hgrow
      go_wp2
      go_roundg (gk - 1)
      case measure => omega
      case rel => exact ⟨_, _, j + 1, L + 1, rfl, by have := HJ.out; omega, ⟨by have := HJ.out; omega⟩, ⟨by rw [List.replicate_succ', ← List.append_assoc]; exact G1.out⟩, G2⟩
end Go.Proofs.YtpgfafpjfdbjmaaDoor
end
section
namespace Go.Proofs.YtpgfafpjfdbjmaaDoor
end Go.Proofs.YtpgfafpjfdbjmaaDoor
end
section
namespace Go.Proofs.YtpgfafpjfdbjmaaDoor
open Go.RowKit Q Go.Proofs.YtpgfafpjfdbjmaaDoorW.PrintWords Go.Proofs.YtpgfafpjfdbjmaaDoorW.PrintLast Go.Proofs.YtpgfafpjfdbjmaaDoorW.PrintMore
structure W8 (w : World) (g : Nat) (x : V8) : Prop where
  lt : g < w.heap.size
  c0 : w.cell? ⟨g, 0, none⟩ = some (.int .u32 x.a)
  c1 : w.cell? ⟨g, 1, none⟩ = some (.int .u32 x.b)
  c2 : w.cell? ⟨g, 2, none⟩ = some (.int .u32 x.c)
  c3 : w.cell? ⟨g, 3, none⟩ = some (.int .u32 x.d)
  c4 : w.cell? ⟨g, 4, none⟩ = some (.int .u32 x.e)
  c5 : w.cell? ⟨g, 5, none⟩ = some (.int .u32 x.f)
  c6 : w.cell? ⟨g, 6, none⟩ = some (.int .u32 x.g)
  c7 : w.cell? ⟨g, 7, none⟩ = some (.int .u32 x.h)
theorem W8.keep {w w' : World} {g : Nat} {x : V8} (h : W8 w g x) (hb : Below w.heap.size w w') : W8 w' g x :=
  ⟨Nat.lt_of_lt_of_le h.lt hb.size, (hb.cell h.lt).trans h.c0, (hb.cell h.lt).trans h.c1, (hb.cell h.lt).trans h.c2, (hb.cell h.lt).trans h.c3, (hb.cell h.lt).trans h.c4, (hb.cell h.lt).trans h.c5, (hb.cell h.lt).trans h.c6, (hb.cell h.lt).trans h.c7⟩
theorem W8.at {w : World} {g : Nat} {x : V8} (h : W8 w g x) (j : Nat) (v : Value) (hj : (x.cells)[j]? = some v) : w.cell? ⟨g, j, none⟩ = some v := by
  match j, hj with
  | 0, hj => exact h.c0.trans hj
  | 1, hj => exact h.c1.trans hj
  | 2, hj => exact h.c2.trans hj
  | 3, hj => exact h.c3.trans hj
  | 4, hj => exact h.c4.trans hj
  | 5, hj => exact h.c5.trans hj
  | 6, hj => exact h.c6.trans hj
  | 7, hj => exact h.c7.trans hj
  | j + 8, hj => simp [V8.cells] at hj
structure RowI (w : World) (g : Nat) (l : List Int) : Prop where
  lt : g < w.heap.size
  at' : ∀ j, j < l.length → w.cell? ⟨g, j, none⟩ = some (.int .u32 (l.getD j 0))
theorem RowI.keep {w w' : World} {g : Nat} {l : List Int} (h : RowI w g l) (hb : Below w.heap.size w w') : RowI w' g l :=
  ⟨Nat.lt_of_lt_of_le h.lt hb.size, fun j hj => (hb.cell h.lt).trans (h.at' j hj)⟩
theorem W8.of {w : World} {g : Nat} {T : TypeId} (x : V8) (h : Row w g T x.l) : W8 w g x :=
  ⟨h.lt, h.cell 0 (by simp [V8.l]), h.cell 1 (by simp [V8.l]), h.cell 2 (by simp [V8.l]), h.cell 3 (by simp [V8.l]), h.cell 4 (by simp [V8.l]), h.cell 5 (by simp [V8.l]), h.cell 6 (by simp [V8.l]), h.cell 7 (by simp [V8.l])⟩
theorem W8.other {w : World} {g g' : Nat} {x : V8} (h : W8 w g x) (hne : g ≠ g') (i : Nat) (v : Value) : W8 (w.setCell ⟨g', i, none⟩ v) g x := by
  have hb : (w.setCell ⟨g', i, none⟩ v).heap[g]? = w.heap[g]? := Below.heap_setCell _ _ _ _ (fun e => hne e)
  have hc : ∀ k, (w.setCell ⟨g', i, none⟩ v).cell? ⟨g, k, none⟩ = w.cell? ⟨g, k, none⟩ := fun k => World.cell?_of_block hb
  exact ⟨by simp [World.setCell]; exact h.lt, (hc _).trans h.c0, (hc _).trans h.c1, (hc _).trans h.c2, (hc _).trans h.c3, (hc _).trans h.c4, (hc _).trans h.c5, (hc _).trans h.c6, (hc _).trans h.c7⟩
end Go.Proofs.YtpgfafpjfdbjmaaDoor
end
section
namespace Go.Proofs.YtpgfafpjfdbjmaaDoor
end Go.Proofs.YtpgfafpjfdbjmaaDoor
end
section
namespace Go.Proofs.YtpgfafpjfdbjmaaDoor
open Go.RowKit Q Go.Proofs.YtpgfafpjfdbjmaaDoorW.PrintWords Go.Proofs.YtpgfafpjfdbjmaaDoorW.PrintLast Go.Proofs.YtpgfafpjfdbjmaaDoorW.PrintMore
theorem fd_prefix (x : V8) (a b : List UInt8) (q : Nat) (ha : 64 * q ≤ a.length) : fd x (B (a ++ b)) q = fd x (B a) q := by
  induction q with
  | zero => rfl
  | succ q ih =>
    rw [fd, fd, ih (by omega), B_extract, B_extract]
    congr 2
    rw [List.drop_append_of_le_length (by omega), List.take_append_of_le_length (by rw [List.length_drop]; omega)]
theorem fd_append (x : V8) (a b : List UInt8) (q : Nat) (ha : a.length = 64 * q) (k : Nat) : fd x (B (a ++ b)) (q + k) = fd (fd x (B a) q) (B b) k := by
  induction k with
  | zero => exact fd_prefix x a b q (by omega)
  | succ k ih =>
    rw [← Nat.add_assoc, fd, fd, ih, B_extract, B_extract]
    congr 2
    rw [List.drop_append, ha, show 64 * (q + k) - 64 * q = 64 * k by omega, List.drop_of_length_le (by rw [ha]; omega), List.nil_append, show 64 * (q + k) + 64 - 64 * (q + k) = 64 by omega, show 64 * k + 64 - 64 * k = 64 by omega]
theorem parts (l : List UInt8) : ∃ a b : List UInt8, l = a ++ b ∧ a.length = 64 * (l.length / 64) ∧ b.length = l.length % 64 ∧ b = l.drop (64 * (l.length / 64)) ∧ a = l.take (64 * (l.length / 64)) :=
  ⟨l.take (64 * (l.length / 64)), l.drop (64 * (l.length / 64)), (List.take_append_drop _ _).symm, by rw [List.length_take]; omega, by rw [List.length_drop]; omega, rfl, rfl⟩
theorem rest_eq (l : List UInt8) : (B l).extract (64 * ((B l).size / 64)) (B l).size = B (l.drop (64 * (l.length / 64))) := by
  rw [B_size, B_extract, List.take_of_length_le (by rw [List.length_drop]; omega)]
theorem fd_more (x : V8) (l m : List UInt8) : fd (fd x (B l) (l.length / 64)) (B (l.drop (64 * (l.length / 64)) ++ m)) ((l.drop (64 * (l.length / 64)) ++ m).length / 64) = fd x (B (l ++ m)) ((l ++ m).length / 64) := by
  obtain ⟨a, b, hl, ha, hb, hbd, hat⟩ := parts l
  rw [← hbd]
  have e1 : fd x (B l) (l.length / 64) = fd x (B a) (l.length / 64) := by
    conv => lhs; rw [hl]
    rw [show (a ++ b).length = l.length by rw [← hl]]
    exact fd_prefix x a b _ (by omega)
  rw [e1, ← fd_append x a (b ++ m) _ ha, ← List.append_assoc, ← hl]
  congr 1
  simp only [List.length_append]
  omega
theorem fill0_B (l : List UInt8) : fill0 (B l) = l ++ [128] := rfl
theorem fill_more (l : List UInt8) (n : Nat) : fill2 (B l) n = l.take (64 * (l.length / 64)) ++ fill2 (B (l.drop (64 * (l.length / 64)))) n := by
  unfold fill2 fill1
  rw [fill0_B, fill0_B]
  have hp : pz (l ++ [128]).length = pz (l.drop (64 * (l.length / 64)) ++ [128]).length := by
    unfold pz
    simp only [List.length_append, List.length_drop, List.length_cons, List.length_nil]
    omega
  rw [hp]
  simp only [← List.append_assoc]
  rw [List.take_append_drop]
def SHA (l : List UInt8) : List UInt8 := outk (fd H8 (B (fill2 (B l) l.length)) ((fill2 (B l) l.length).length / 64)).l 8
theorem sha_rest (l : List UInt8) : outk (fd (fd H8 (B l) (l.length / 64)) (B (fill2 (B (l.drop (64 * (l.length / 64)))) l.length)) ((fill2 (B (l.drop (64 * (l.length / 64)))) l.length).length / 64)).l 8 = SHA l := by
  obtain ⟨a, b, hl, ha, hb, hbd, hat⟩ := parts l
  unfold SHA
  rw [← hbd]
  have e1 : fd H8 (B l) (l.length / 64) = fd H8 (B a) (l.length / 64) := by
    conv => lhs; rw [hl]
    rw [show (a ++ b).length = l.length by rw [← hl]]
    exact fd_prefix H8 a b _ (by omega)
  have e2 := fill_more l l.length
  rw [← hbd, ← hat] at e2
  rw [e1, ← fd_append H8 a _ _ ha, e2]
  congr 3
  rw [List.length_append, ha]
  omega
theorem SHA_len (l : List UInt8) : (SHA l).length = 32 := outk_len _ 8
def Is (w : World) (g : Nat) (l : List UInt8) : Prop := DSt w g (fd H8 (B l) (l.length / 64)) (B (l.drop (64 * (l.length / 64)))) l.length
theorem new_is (w : World) : Calls Tryd.prog 48 #[] w fun e w' => ∃ g, e = .returned (.pointer (some ⟨g, 0, none⟩)) ∧ Is w' g [] ∧ w.heap.size ≤ g ∧ Below w.heap.size w w' := dnew_calls w
theorem add_is (g : Nat) (l m : List UInt8) (w : World) (h : Is w g l) (hl : l.length ≤ 140737488355328) (hm : m.length ≤ 140737488355328) :
    Calls Tryd.prog 49 #[.pointer (some ⟨g, 0, none⟩), .string (B m)] w fun e w' => e = .returned (.int .i64 (l ++ m).length) ∧ Is w' g (l ++ m) ∧ Bf w.heap.size g w w' := by
  refine (dadd_calls g _ _ (B m) l.length w h (by rw [B_size, List.length_drop]; omega) (by rw [B_size]; exact hm) hl).mono ?_
  rintro e w' ⟨rfl, hD, hF⟩
  refine ⟨by rw [B_size, List.length_append], ?_, hF⟩
  unfold Is
  rw [B_append, B_size, B_size] at hD
  rw [← fd_more]
  have e2 : (B (l.drop (64 * (l.length / 64)) ++ m)).extract (64 * ((l.drop (64 * (l.length / 64)) ++ m).length / 64)) (l.drop (64 * (l.length / 64)) ++ m).length = B ((l ++ m).drop (64 * ((l.length + m.length) / 64))) := by
    have := rest_eq (l.drop (64 * (l.length / 64)) ++ m)
    rw [B_size] at this
    rw [this]
    obtain ⟨a, b, hl', ha, hb, hbd, hat⟩ := parts l
    rw [← hbd]
    have hlm : l ++ m = a ++ (b ++ m) := by rw [← List.append_assoc, ← hl']
    have hN : 64 * ((l.length + m.length) / 64) = a.length + 64 * ((b ++ m).length / 64) := by
      rw [List.length_append, ha]
      omega
    rw [hN, hlm, List.drop_length_add_append]
  rw [e2] at hD
  simp only [List.length_append] at hD ⊢
  exact hD
theorem sum_is (g : Nat) (l : List UInt8) (w : World) (h : Is w g l) (hl : l.length ≤ 140737488355328) :
    Calls Tryd.prog 50 #[.pointer (some ⟨g, 0, none⟩)] w fun e w' => e = .returned (.string (B (SHA l))) ∧ Below w.heap.size w w' := by
  refine (dsum_calls g _ _ l.length w h (by rw [B_size, List.length_drop]; omega) hl).mono ?_
  rintro e w' ⟨rfl, hB⟩
  refine ⟨?_, hB⟩
  rw [← sha_rest l]
  rfl
set_option maxRecDepth 100000 in
set_option maxHeartbeats 400000 in
theorem dsum_all (l : List UInt8) (hl : l.length ≤ 140737488355328) (w : World) : Calls Tryd.prog 29 #[.string (B l)] w fun e w' => e = .returned (.string (B (SHA l))) ∧ Below w.heap.size w w' := by
  generalize hbl : B l = s
  have HBL := Lib.hid hbl
  clear hbl
  go_enter Tryd.func29, Tryd.ntmps29
  go_wp2_with fail
  refine Calls.mono (new_is w) ?_
  rintro e w1 ⟨g, rfl, hI, hg, hB⟩
  have HI := Aside0.mk hI
  have HB := Aside0.mk hB
  clear hI hB
  go_wp2_with fail
  rw [← HBL.out]
  refine Calls.mono (add_is g [] l w1 HI.out (Nat.zero_le _) hl) ?_
  rintro e w2 ⟨rfl, hI, hF⟩
  have HI := Aside0.mk hI
  have HB := Aside0.mk (HB.out.trans (hF.below HB.out.size hg))
  clear hI hF
  go_wp2_with fail
  refine Calls.mono (sum_is g l w2 HI.out hl) ?_
  rintro e w3 ⟨rfl, hB3⟩
  have HB := Aside0.mk (below2 HB.out HB.out.size hB3)
  clear hB3
  go_wp2_with fail
  go_ret
  exact ⟨rfl, HB.out⟩
end Go.Proofs.YtpgfafpjfdbjmaaDoor
end
section
namespace Go.Proofs.YtpgfafpjfdbjmaaDoor
open Go.RowKit Q Go.Proofs.YtpgfafpjfdbjmaaDoorW.PrintWords Go.Proofs.YtpgfafpjfdbjmaaDoorW.PrintLast Go.Proofs.YtpgfafpjfdbjmaaDoorW.PrintMore
def digest_Sum.f (a0 : ByteArray) : Option ByteArray := if a0.size ≤ 17592186044416 then some (B (SHA a0.data.toList)) else none
theorem digest_Sum.calls (a0 : ByteArray) (r : ByteArray) (w : World) (h : digest_Sum.f a0 = some r) :
    Calls Tryd.prog 29 #[.string a0] w fun e w' => e = .returned (.string r) ∧ Below w.heap.size w w' := by
  unfold digest_Sum.f at h
  split at h
  · rename_i hs
    obtain rfl := Option.some.inj h
    have := dsum_all a0.data.toList (by rw [size_data]; omega) w
    rw [B_eta] at this
    exact this
  · cases h
end Go.Proofs.YtpgfafpjfdbjmaaDoor
end
section
namespace Go.Proofs.YtpgfafpjfdbjmaaDoor.Q
open Go.RowKit Go.Proofs.YtpgfafpjfdbjmaaDoorW.PrintWords Go.Proofs.YtpgfafpjfdbjmaaDoorW.PrintLast Go.Proofs.YtpgfafpjfdbjmaaDoorW.PrintMore
attribute [local go_sem] max2_int min2_int max_two min_two max_three min_three max_four min_four   -- for this text's walks alone
set_option linter.unusedVariables false
set_option linter.unusedSimpArgs false
def needle_Write.f (k : Nat) (a0_0 : ByteArray) (a0_1 : ByteArray) : Option (ByteArray × Int) := (needle_Check.f a0_0 a0_1).bind fun t109 => (if t109 = 0 then ((pack_Text.f k a0_0).bind fun t110 => ((pack_Text.f k a0_1).bind fun t111 => (if t110.size + t111.size ≤ 9223372036854775807 then ((digest_Sum.f a0_1).bind fun t112 => (if (t110 ++ t111).size + t112.size ≤ 9223372036854775807 then (some ((t110 ++ t111) ++ t112, 0)) else (none))) else (none)))) else (some ((⟨#[]⟩ : ByteArray), t109)))
def needle_Write.T4 : Bool × List (List Nat × List Nat) := (true, [([], []), ([0], [0]), ([1], [1]), ([], []), ([3], [3]), ([4, 2], [4]), ([2, 5], [2, 5]), ([], []), ([7], [7]), ([8, 5], [8]), ([6, 9], [6, 9]), ([10, 9, 0, 1, 2, 3, 4, 5, 6, 7, 8, 9, 10], [10]), ([11, 0, 1, 2, 3, 4, 5, 6, 7, 8, 9, 10, 11], [])])
def needle_Write.B4 : List Nat := [0, 1, 3, 0, 8, 31, 63, 0, 128, 447, 1023, 2047, 4095]
theorem needle_Write.tab4 : rtab .any (opsOf Tryd.f10 4) = needle_Write.T4 := by kernel_rfl
theorem needle_Write.bits4 : waitsOk needle_Write.T4.2 needle_Write.B4 = true := by kernel_rfl
set_option maxHeartbeats 8000000 in
set_option maxRecDepth 100000 in
theorem needle_Write.calls (k : Nat) (a0_0 : ByteArray) (a0_1 : ByteArray) (r1 : ByteArray) (r2 : Int) (w : World) (h : needle_Write.f k a0_0 a0_1 = some (r1, r2)) :
    Calls Tryd.prog 10 #[.agg #[.string a0_0, .string a0_1]] w fun e w' => e = .returned (.tuple #[.string r1, .int .i64 r2]) ∧ Below w.heap.size w w' := by
  have hu28 := Tryd.underlying28
  have HB := Aside0.mk (Below.refl w.heap.size w)
  have H : ((needle_Check.f a0_0 a0_1).bind fun t109 => (if t109 = 0 then ((pack_Text.f k a0_0).bind fun t110 => ((pack_Text.f k a0_1).bind fun t111 => (if t110.size + t111.size ≤ 9223372036854775807 then ((digest_Sum.f a0_1).bind fun t112 => (if (t110 ++ t111).size + t112.size ≤ 9223372036854775807 then (some ((t110 ++ t111) ++ t112, 0)) else (none))) else (none)))) else (some ((⟨#[]⟩ : ByteArray), t109)))) = some (r1, r2) := h
  clear h
  replace H := Option.bind_eq_some_iff.mp H
  obtain ⟨t109, A20, H⟩ := H
  replace H : (if t109 = 0 then ((pack_Text.f k a0_0).bind fun t110 => ((pack_Text.f k a0_1).bind fun t111 => (if t110.size + t111.size ≤ 9223372036854775807 then ((digest_Sum.f a0_1).bind fun t112 => (if (t110 ++ t111).size + t112.size ≤ 9223372036854775807 then (some ((t110 ++ t111) ++ t112, 0)) else (none))) else (none)))) else (some ((⟨#[]⟩ : ByteArray), t109))) = some (r1, r2) := H
  have A2 := Aside0.mk A20
  clear A20
  by_cases c3 : t109 = 0
  · rw [if_pos c3] at H
    have c3b0 : (t109 == 0) = true := beq_iff_eq.mpr c3
    have c3b1 : (t109 != 0) = false := bne_eq_false_iff_eq.mpr c3
    clear c3
    replace H := Option.bind_eq_some_iff.mp H
    obtain ⟨t110, A40, H⟩ := H
    replace H : ((pack_Text.f k a0_1).bind fun t111 => (if t110.size + t111.size ≤ 9223372036854775807 then ((digest_Sum.f a0_1).bind fun t112 => (if (t110 ++ t111).size + t112.size ≤ 9223372036854775807 then (some ((t110 ++ t111) ++ t112, 0)) else (none))) else (none))) = some (r1, r2) := H
    have A4 := Aside0.mk A40
    clear A40
    replace H := Option.bind_eq_some_iff.mp H
    obtain ⟨t111, A50, H⟩ := H
    replace H : (if t110.size + t111.size ≤ 9223372036854775807 then ((digest_Sum.f a0_1).bind fun t112 => (if (t110 ++ t111).size + t112.size ≤ 9223372036854775807 then (some ((t110 ++ t111) ++ t112, 0)) else (none))) else (none)) = some (r1, r2) := H
    have A5 := Aside0.mk A50
    clear A50
    by_cases c6 : t110.size + t111.size ≤ 9223372036854775807
    · rw [if_pos c6] at H
      have c6b0 := eq_true c6
      have c6b1 : decide (t110.size + t111.size ≤ 9223372036854775807) = true := decide_eq_true c6
      try have c6b2 : (9223372036854775807 < t110.size + t111.size) = False := eq_false (Nat.not_lt.2 c6)
      replace H := Option.bind_eq_some_iff.mp H
      obtain ⟨t112, A70, H⟩ := H
      replace H : (if (t110 ++ t111).size + t112.size ≤ 9223372036854775807 then (some ((t110 ++ t111) ++ t112, 0)) else (none)) = some (r1, r2) := H
      have A7 := Aside0.mk A70
      clear A70
      by_cases c8 : (t110 ++ t111).size + t112.size ≤ 9223372036854775807
      · rw [if_pos c8] at H
        have c8b0 := eq_true c8
        have c8b1 : decide ((t110 ++ t111).size + t112.size ≤ 9223372036854775807) = true := decide_eq_true c8
        try have c8b2 : (9223372036854775807 < (t110 ++ t111).size + t112.size) = False := eq_false (Nat.not_lt.2 c8)
        have c8b9 := c8b2
        simp only [ByteArray.size_append] at c8b9
        simp only [Option.some.injEq, Prod.mk.injEq] at H
        obtain ⟨rfl, rfl⟩ := H
        go_enter Tryd.func10, Tryd.ntmps10
        try go_wp2_with (first | ((with_reducible refine gate_dst (N := 1) rfl ?_); refine box_event ?hg (N := 1) ?hd (cs := #[.string a0_0, .string a0_1]) (t := 28) ?hr ?_; (case hd => rfl); (case hg => rfl); (case hr => first | (go_simp; done) | (go_simp; rfl)); intro gb108 hg w9 hbox hb; have n0_ := Aside0.mk (below_step (by repeat (first | (with_reducible first | exact HB.out | apply below_alloc | apply pw_below_drewN | apply below_drew1) | exact HB.out)) hb); have n1_ := Aside0.mk (hbox); have n2_ := Aside0.mk ((by rw [hg]; exact (below_size (by repeat (first | (with_reducible first | exact HB.out | apply below_alloc | apply pw_below_drewN | apply below_drew1) | exact HB.out))) : w.heap.size ≤ gb108)); have n3_ := Aside0.mk ((by rw [hg]; exact (below_size (by repeat (first | (with_reducible first | exact HB.out | apply below_alloc | apply pw_below_drewN | apply below_drew1) | exact HB.out))) : w.heap.size ≤ gb108)); clear HB; have HB := n0_; have BK108 := n1_; have GW108 := n2_; have GE108 := n3_; clear n0_ n1_ n2_ n3_; clear hb hbox hg; have hcz10_0 : w9.cell? ⟨gb108, 0, none⟩ = some (.string a0_0) := (blk_cell BK108.out 0).trans rfl; have hcz10_1 : w9.cell? ⟨gb108, 1, none⟩ = some (.string a0_1) := (blk_cell BK108.out 1).trans rfl; have hfz10_0 := blk_frozen BK108.out 0; have hfz10_1 := blk_frozen BK108.out 1) | ((with_reducible refine gate_callee (f := 13) rfl ?_); refine goesL_ (some 6) rfl rfl Tryd.func13 (by kernel_rfl) rfl #[.agg #[.string a0_0, .string a0_1]] rfl (by (try simp only [List.map_toArray, List.map_cons, List.map_nil]); first | done | rfl | (simp only [List.length_drop, List.length_take]; rfl)) ?_; (with_reducible refine (needle_Check.calls a0_0 a0_1 t109 _ A2.out).mono ?_); rintro e w11 ⟨rfl, hb⟩; refine ⟨_, rfl, ?_⟩; have n0_ := Aside0.mk (blk_below (g := gb108) (o := .cells #[.string a0_0, .string a0_1] 28 (0, 0)) (by (with_reducible repeat (first | refine blk_drewN ?_ _ | refine blk_drew ?_ | refine blk_alloc ?_ _)); exact BK108.out) hb); have n1_ := Aside0.mk (below_step (by repeat (first | (with_reducible first | exact HB.out | apply below_alloc | apply pw_below_drewN | apply below_drew1 | refine below_set ?_ GE108.out) | exact HB.out)) hb); clear BK108; clear HB; have BK108 := n0_; have HB := n1_; clear n0_ n1_; (try clear hb); (try clear hb2); (try clear hk); (try clear hi)))
        have n0_ := Aside0.mk (blk_drew BK108.out)
        have n1_ := Aside0.mk (below_drew1 HB.out)
        clear BK108
        clear HB
        have BK108 := n0_
        have HB := n1_
        clear n0_ n1_
        refine start_ (n := 13) (S := fun w' => w'.cell? ⟨gb108, 0, none⟩ = some (.string a0_0) ∧ w'.cell? ⟨gb108, 1, none⟩ = some (.string a0_1)) (ds := []) #[false, false, false, false, false, false, false, false, false, false, false, false, false] (by kernel_rfl) rfl rfl ⟨(blk_cell BK108.out 0).trans rfl, (blk_cell BK108.out 1).trans rfl⟩ (fun hHeld => ?_); refine with_tabW needle_Write.tab4 needle_Write.bits4 (fun HT_ HW_ => ?_)
        generalize w11.drew = w12 at BK108 HB hHeld ⊢
        refine pure_ (i := 0) (N := some 10) (v := ?_) (a' := ?_) #[true, false, false, false, false, false, false, false, false, false, false, false, false] rfl rfl (any_of HT_.out (by kernel_rfl)) (fun _ _ _ h => h) (Or.inl ⟨by rfl, ?_⟩) ?_ ?_
        rotate_left
        · intro w'
          go_simp
          with_reducible rfl
        rotate_left
        · simp only [Act.put, List.setIfInBounds_toArray, List.set_cons_zero, List.set_cons_succ, i64_w, i32_w]
          rfl
        refine pure_ (i := 3) (N := some 13) (v := ?_) (a' := ?_) #[true, false, false, true, false, false, false, false, false, false, false, false, false] rfl rfl (any_of HT_.out (by kernel_rfl)) (fun _ _ _ h => h) (Or.inl ⟨by rfl, ?_⟩) ?_ ?_
        rotate_left
        · intro w'
          go_simp
          with_reducible rfl
        rotate_left
        · simp only [Act.put, List.setIfInBounds_toArray, List.set_cons_zero, List.set_cons_succ, i64_w, i32_w]
          rfl
        refine pure_ (i := 7) (N := some 17) (v := ?_) (a' := ?_) #[true, false, false, true, false, false, false, true, false, false, false, false, false] rfl rfl (any_of HT_.out (by kernel_rfl)) (fun _ _ _ h => h) (Or.inl ⟨by rfl, ?_⟩) ?_ ?_
        rotate_left
        · intro w'
          go_simp
          with_reducible rfl
        rotate_left
        · simp only [Act.put, List.setIfInBounds_toArray, List.set_cons_zero, List.set_cons_succ, i64_w, i32_w]
          rfl
        refine take_ (i := 1) (N := some 11) (v := ?_) (a' := ?_) #[true, true, false, true, false, false, false, true, false, false, false, false, false] rfl rfl (take_ofW HT_.out HW_.out (by kernel_rfl)) (fun _ _ _ h => h) (Or.inl ⟨by rfl, ?_⟩) hHeld ?_ ?_
        rotate_left
        · rintro w' ⟨s0, s1⟩
          go_simp
          with_reducible rfl
        rotate_left
        · simp only [Act.put, List.setIfInBounds_toArray, List.set_cons_zero, List.set_cons_succ, i64_w, i32_w]
          rfl
        refine take_ (i := 4) (N := some 14) (v := ?_) (a' := ?_) #[true, true, false, true, true, false, false, true, false, false, false, false, false] rfl rfl (take_ofW HT_.out HW_.out (by kernel_rfl)) (fun _ _ _ h => h) (Or.inl ⟨by rfl, ?_⟩) hHeld ?_ ?_
        rotate_left
        · rintro w' ⟨s0, s1⟩
          go_simp
          with_reducible rfl
        rotate_left
        · simp only [Act.put, List.setIfInBounds_toArray, List.set_cons_zero, List.set_cons_succ, i64_w, i32_w]
          rfl
        refine take_ (i := 8) (N := some 18) (v := ?_) (a' := ?_) #[true, true, false, true, true, false, false, true, true, false, false, false, false] rfl rfl (take_ofW HT_.out HW_.out (by kernel_rfl)) (fun _ _ _ h => h) (Or.inl ⟨by rfl, ?_⟩) hHeld ?_ ?_
        rotate_left
        · rintro w' ⟨s0, s1⟩
          go_simp
          with_reducible rfl
        rotate_left
        · simp only [Act.put, List.setIfInBounds_toArray, List.set_cons_zero, List.set_cons_succ, i64_w, i32_w]
          rfl
        refine one_ (i := 2) (N := some 12) #[true, true, true, true, true, false, false, true, true, false, false, false, false] rfl rfl (one_of HT_.out (by kernel_rfl)) (by decide) (fun K hK => ?_)
        refine goes_ Tryd.func28 (by kernel_rfl) rfl #[.string a0_0] (by rfl) rfl rfl (by (try simp only [List.map_toArray, List.map_cons, List.map_nil]); first | done | rfl | (simp only [List.length_drop, List.length_take]; rfl)) ?_
        with_reducible refine (pack_Text.calls k a0_0 t110 _ A4.out).mono ?_
        rintro e w13 ⟨rfl, hb⟩
        refine ⟨_, rfl, ?_⟩
        have n0_ := Aside0.mk (blk_below (g := gb108) (o := .cells #[.string a0_0, .string a0_1] 28 (0, 0)) (by (with_reducible repeat (first | refine blk_drewN ?_ _ | refine blk_drew ?_ | refine blk_alloc ?_ _)); exact BK108.out) hb)
        have n1_ := Aside0.mk (below_step (by repeat (first | (with_reducible first | exact HB.out | apply below_alloc | apply pw_below_drewN | apply below_drew1 | refine below_set ?_ GE108.out) | exact HB.out)) hb)
        clear BK108
        clear HB
        have BK108 := n0_
        have HB := n1_
        clear n0_ n1_
        (try clear hb)
        (try clear hb2)
        (try clear hk)
        (try clear hi)
        refine hK.out _ _ ⟨(blk_cell BK108.out 0).trans rfl, (blk_cell BK108.out 1).trans rfl⟩ (fun hHeld => ?_)
        clear hK K
        refine norm_ (a' := ?_) ?_ ?_
        rotate_left
        · show Act.put _ (some 12) _ = _
          simp only [Act.put, List.setIfInBounds_toArray, List.set_cons_zero, List.set_cons_succ, i64_w, i32_w]
          rfl
        refine one_ (i := 5) (N := some 15) #[true, true, true, true, true, true, false, true, true, false, false, false, false] rfl rfl (one_of HT_.out (by kernel_rfl)) (by decide) (fun K hK => ?_)
        refine goes_ Tryd.func28 (by kernel_rfl) rfl #[.string a0_1] (by rfl) rfl rfl (by (try simp only [List.map_toArray, List.map_cons, List.map_nil]); first | done | rfl | (simp only [List.length_drop, List.length_take]; rfl)) ?_
        with_reducible refine (pack_Text.calls k a0_1 t111 _ A5.out).mono ?_
        rintro e w14 ⟨rfl, hb⟩
        refine ⟨_, rfl, ?_⟩
        have n0_ := Aside0.mk (blk_below (g := gb108) (o := .cells #[.string a0_0, .string a0_1] 28 (0, 0)) (by (with_reducible repeat (first | refine blk_drewN ?_ _ | refine blk_drew ?_ | refine blk_alloc ?_ _)); exact BK108.out) hb)
        have n1_ := Aside0.mk (below_step (by repeat (first | (with_reducible first | exact HB.out | apply below_alloc | apply pw_below_drewN | apply below_drew1 | refine below_set ?_ GE108.out) | exact HB.out)) hb)
        clear BK108
        clear HB
        have BK108 := n0_
        have HB := n1_
        clear n0_ n1_
        (try clear hb)
        (try clear hb2)
        (try clear hk)
        (try clear hi)
        refine hK.out _ _ ⟨(blk_cell BK108.out 0).trans rfl, (blk_cell BK108.out 1).trans rfl⟩ (fun hHeld => ?_)
        clear hK K
        refine norm_ (a' := ?_) ?_ ?_
        rotate_left
        · show Act.put _ (some 15) _ = _
          simp only [Act.put, List.setIfInBounds_toArray, List.set_cons_zero, List.set_cons_succ, i64_w, i32_w]
          rfl
        refine pure_ (i := 6) (N := some 16) (v := ?_) (a' := ?_) #[true, true, true, true, true, true, true, true, true, false, false, false, false] rfl rfl (any_of HT_.out (by kernel_rfl)) (fun _ _ _ h => h) (Or.inl ⟨by rfl, ?_⟩) ?_ ?_
        rotate_left
        · intro w'
          go_simp
          with_reducible rfl
        rotate_left
        · simp only [Act.put, List.setIfInBounds_toArray, List.set_cons_zero, List.set_cons_succ, i64_w, i32_w]
          rfl
        refine one_ (i := 9) (N := some 19) #[true, true, true, true, true, true, true, true, true, true, false, false, false] rfl rfl (one_of HT_.out (by kernel_rfl)) (by decide) (fun K hK => ?_)
        refine goes_ Tryd.func29 (by kernel_rfl) rfl #[.string a0_1] (by rfl) rfl rfl (by (try simp only [List.map_toArray, List.map_cons, List.map_nil]); first | done | rfl | (simp only [List.length_drop, List.length_take]; rfl)) ?_
        with_reducible refine (digest_Sum.calls a0_1 t112 _ A7.out).mono ?_
        rintro e w15 ⟨rfl, hb⟩
        refine ⟨_, rfl, ?_⟩
        have n0_ := Aside0.mk (blk_below (g := gb108) (o := .cells #[.string a0_0, .string a0_1] 28 (0, 0)) (by (with_reducible repeat (first | refine blk_drewN ?_ _ | refine blk_drew ?_ | refine blk_alloc ?_ _)); exact BK108.out) hb)
        have n1_ := Aside0.mk (below_step (by repeat (first | (with_reducible first | exact HB.out | apply below_alloc | apply pw_below_drewN | apply below_drew1 | refine below_set ?_ GE108.out) | exact HB.out)) hb)
        clear BK108
        clear HB
        have BK108 := n0_
        have HB := n1_
        clear n0_ n1_
        (try clear hb)
        (try clear hb2)
        (try clear hk)
        (try clear hi)
        refine hK.out _ _ ⟨(blk_cell BK108.out 0).trans rfl, (blk_cell BK108.out 1).trans rfl⟩ (fun hHeld => ?_)
        clear hK K
        refine norm_ (a' := ?_) ?_ ?_
        rotate_left
        · show Act.put _ (some 19) _ = _
          simp only [Act.put, List.setIfInBounds_toArray, List.set_cons_zero, List.set_cons_succ, i64_w, i32_w]
          rfl
        refine pure_ (i := 10) (N := some 20) (v := ?_) (a' := ?_) #[true, true, true, true, true, true, true, true, true, true, true, false, false] rfl rfl (any_of HT_.out (by kernel_rfl)) (fun _ _ _ h => h) (Or.inl ⟨by rfl, ?_⟩) ?_ ?_
        rotate_left
        · intro w'
          go_simp
          with_reducible rfl
        rotate_left
        · simp only [Act.put, List.setIfInBounds_toArray, List.set_cons_zero, List.set_cons_succ, i64_w, i32_w]
          rfl
        refine pure_ (i := 11) (N := some 2) (v := ?_) (a' := ?_) #[true, true, true, true, true, true, true, true, true, true, true, true, false] rfl rfl (any_of HT_.out (by kernel_rfl)) (fun _ _ _ h => h) (Or.inl ⟨by rfl, ?_⟩) ?_ ?_
        rotate_left
        · intro w'
          go_simp
          with_reducible rfl
        rotate_left
        · simp only [Act.put, List.setIfInBounds_toArray, List.set_cons_zero, List.set_cons_succ, i64_w, i32_w]
          rfl
        refine pure_ (i := 12) (N := some 3) (v := ?_) (a' := ?_) #[true, true, true, true, true, true, true, true, true, true, true, true, true] rfl rfl (any_of HT_.out (by kernel_rfl)) (fun _ _ _ h => h) (Or.inl ⟨by rfl, ?_⟩) ?_ ?_
        rotate_left
        · intro w'
          go_simp
          with_reducible rfl
        rotate_left
        · simp only [Act.put, List.setIfInBounds_toArray, List.set_cons_zero, List.set_cons_succ, i64_w, i32_w]
          rfl
        refine done_ (done_of HT_.out (by kernel_rfl)) ?_
        try go_wp2
        go_ret2
        exact ⟨by first | rfl | (simp [errW_none, errW_some] <;> rfl) | (simp [*, errW_none, errW_some] <;> rfl), by repeat (first | (with_reducible first | exact HB.out | apply below_alloc | apply pw_below_drewN | apply below_drew1 | refine below_set ?_ GE108.out) | exact HB.out)⟩
      · rw [if_neg c8] at H
        exact absurd H (by simp)
    · rw [if_neg c6] at H
      exact absurd H (by simp)
  · rw [if_neg c3] at H
    have c3b0 : (t109 == 0) = false := beq_eq_false_iff_ne.mpr c3
    have c3b1 : (t109 != 0) = true := bne_iff_ne.mpr c3
    simp only [Option.some.injEq, Prod.mk.injEq] at H
    obtain ⟨rfl, rfl⟩ := H
    go_enter Tryd.func10, Tryd.ntmps10
    go_wp2_with (first | ((with_reducible refine gate_dst (N := 1) rfl ?_); refine box_event ?hg (N := 1) ?hd (cs := #[.string a0_0, .string a0_1]) (t := 28) ?hr ?_; (case hd => rfl); (case hg => rfl); (case hr => first | (go_simp; done) | (go_simp; rfl)); intro gb108 hg w16 hbox hb; have n0_ := Aside0.mk (below_step (by repeat (first | (with_reducible first | exact HB.out | apply below_alloc | apply pw_below_drewN | apply below_drew1) | exact HB.out)) hb); have n1_ := Aside0.mk (hbox); have n2_ := Aside0.mk ((by rw [hg]; exact (below_size (by repeat (first | (with_reducible first | exact HB.out | apply below_alloc | apply pw_below_drewN | apply below_drew1) | exact HB.out))) : w.heap.size ≤ gb108)); have n3_ := Aside0.mk ((by rw [hg]; exact (below_size (by repeat (first | (with_reducible first | exact HB.out | apply below_alloc | apply pw_below_drewN | apply below_drew1) | exact HB.out))) : w.heap.size ≤ gb108)); clear HB; have HB := n0_; have BK108 := n1_; have GW108 := n2_; have GE108 := n3_; clear n0_ n1_ n2_ n3_; clear hb hbox hg; have hcz17_0 : w16.cell? ⟨gb108, 0, none⟩ = some (.string a0_0) := (blk_cell BK108.out 0).trans rfl; have hcz17_1 : w16.cell? ⟨gb108, 1, none⟩ = some (.string a0_1) := (blk_cell BK108.out 1).trans rfl; have hfz17_0 := blk_frozen BK108.out 0; have hfz17_1 := blk_frozen BK108.out 1) | ((with_reducible refine gate_callee (f := 13) rfl ?_); refine goesL_ (some 6) rfl rfl Tryd.func13 (by kernel_rfl) rfl #[.agg #[.string a0_0, .string a0_1]] rfl (by (try simp only [List.map_toArray, List.map_cons, List.map_nil]); first | done | rfl | (simp only [List.length_drop, List.length_take]; rfl)) ?_; (with_reducible refine (needle_Check.calls a0_0 a0_1 t109 _ A2.out).mono ?_); rintro e w18 ⟨rfl, hb⟩; refine ⟨_, rfl, ?_⟩; have n0_ := Aside0.mk (blk_below (g := gb108) (o := .cells #[.string a0_0, .string a0_1] 28 (0, 0)) (by (with_reducible repeat (first | refine blk_drewN ?_ _ | refine blk_drew ?_ | refine blk_alloc ?_ _)); exact BK108.out) hb); have n1_ := Aside0.mk (below_step (by repeat (first | (with_reducible first | exact HB.out | apply below_alloc | apply pw_below_drewN | apply below_drew1 | refine below_set ?_ GE108.out) | exact HB.out)) hb); clear BK108; clear HB; have BK108 := n0_; have HB := n1_; clear n0_ n1_; (try clear hb); (try clear hb2); (try clear hk); (try clear hi)))
    go_ret2
    exact ⟨by first | rfl | (simp [errW_none, errW_some] <;> rfl) | (simp [*, errW_none, errW_some] <;> rfl), by repeat (first | (with_reducible first | exact HB.out | apply below_alloc | apply pw_below_drewN | apply below_drew1 | refine below_set ?_ GE108.out) | exact HB.out)⟩
def needle_Read.f (k : Nat) (a0 : ByteArray) : Option (ByteArray × ByteArray × ByteArray × Int) := (pack_Read.f a0).bind fun bt143 => ((pack_Reader_Text.f k bt143.1 bt143.2).bind fun bt146 => ((pack_Reader_Text.f k bt146.2.1 bt146.2.2).bind fun bt150 => ((pack_Reader_Rest.f bt150.2.1 bt150.2.2).bind fun bt153 => ((pack_Reader_End.f bt153.2.1 bt153.2.2).bind fun bt156 => (if bt156.1 = 0 then (if (bt153.1.size : Int) < 32 then (some ((⟨#[]⟩ : ByteArray), (⟨#[]⟩ : ByteArray), (⟨#[]⟩ : ByteArray), 3)) else (if 0 ≤ 32 then (if 32 ≤ (bt153.1.size : Int) then ((digest_Sum.f bt150.1).bind fun t159 => (if (bt153.1.extract 0 32).toList = t159.toList then ((needle_Check.f bt146.1 bt150.1).bind fun t160 => (if t160 = 0 then (some (bt146.1, bt150.1, bt153.1.extract 32 bt153.1.size, 0)) else (some ((⟨#[]⟩ : ByteArray), (⟨#[]⟩ : ByteArray), (⟨#[]⟩ : ByteArray), t160)))) else (some ((⟨#[]⟩ : ByteArray), (⟨#[]⟩ : ByteArray), (⟨#[]⟩ : ByteArray), 5)))) else (none)) else (none))) else (some ((⟨#[]⟩ : ByteArray), (⟨#[]⟩ : ByteArray), (⟨#[]⟩ : ByteArray), bt156.1)))))))
set_option maxHeartbeats 8000000 in
set_option maxRecDepth 100000 in
theorem needle_Read.calls (k : Nat) (a0 : ByteArray) (r1 : ByteArray) (r2 : ByteArray) (r3 : ByteArray) (r4 : Int) (w : World) (h : needle_Read.f k a0 = some (r1, r2, r3, r4)) :
    Calls Tryd.prog 15 #[.string a0] w fun e w' => e = .returned (.tuple #[.agg #[.string r1, .string r2], .string r3, .int .i64 r4]) ∧ Below w.heap.size w w' := by
  have hu28 := Tryd.underlying28
  have HB := Aside0.mk (Below.refl w.heap.size w)
  have H : ((pack_Read.f a0).bind fun bt143 => ((pack_Reader_Text.f k bt143.1 bt143.2).bind fun bt146 => ((pack_Reader_Text.f k bt146.2.1 bt146.2.2).bind fun bt150 => ((pack_Reader_Rest.f bt150.2.1 bt150.2.2).bind fun bt153 => ((pack_Reader_End.f bt153.2.1 bt153.2.2).bind fun bt156 => (if bt156.1 = 0 then (if (bt153.1.size : Int) < 32 then (some ((⟨#[]⟩ : ByteArray), (⟨#[]⟩ : ByteArray), (⟨#[]⟩ : ByteArray), 3)) else (if 0 ≤ 32 then (if 32 ≤ (bt153.1.size : Int) then ((digest_Sum.f bt150.1).bind fun t159 => (if (bt153.1.extract 0 32).toList = t159.toList then ((needle_Check.f bt146.1 bt150.1).bind fun t160 => (if t160 = 0 then (some (bt146.1, bt150.1, bt153.1.extract 32 bt153.1.size, 0)) else (some ((⟨#[]⟩ : ByteArray), (⟨#[]⟩ : ByteArray), (⟨#[]⟩ : ByteArray), t160)))) else (some ((⟨#[]⟩ : ByteArray), (⟨#[]⟩ : ByteArray), (⟨#[]⟩ : ByteArray), 5)))) else (none)) else (none))) else (some ((⟨#[]⟩ : ByteArray), (⟨#[]⟩ : ByteArray), (⟨#[]⟩ : ByteArray), bt156.1)))))))) = some (r1, r2, r3, r4) := h
  clear h
  replace H := Option.bind_eq_some_iff.mp H
  obtain ⟨⟨t143, t144⟩, A20, H⟩ := H
  replace H : ((pack_Reader_Text.f k t143 t144).bind fun bt146 => ((pack_Reader_Text.f k bt146.2.1 bt146.2.2).bind fun bt150 => ((pack_Reader_Rest.f bt150.2.1 bt150.2.2).bind fun bt153 => ((pack_Reader_End.f bt153.2.1 bt153.2.2).bind fun bt156 => (if bt156.1 = 0 then (if (bt153.1.size : Int) < 32 then (some ((⟨#[]⟩ : ByteArray), (⟨#[]⟩ : ByteArray), (⟨#[]⟩ : ByteArray), 3)) else (if 0 ≤ 32 then (if 32 ≤ (bt153.1.size : Int) then ((digest_Sum.f bt150.1).bind fun t159 => (if (bt153.1.extract 0 32).toList = t159.toList then ((needle_Check.f bt146.1 bt150.1).bind fun t160 => (if t160 = 0 then (some (bt146.1, bt150.1, bt153.1.extract 32 bt153.1.size, 0)) else (some ((⟨#[]⟩ : ByteArray), (⟨#[]⟩ : ByteArray), (⟨#[]⟩ : ByteArray), t160)))) else (some ((⟨#[]⟩ : ByteArray), (⟨#[]⟩ : ByteArray), (⟨#[]⟩ : ByteArray), 5)))) else (none)) else (none))) else (some ((⟨#[]⟩ : ByteArray), (⟨#[]⟩ : ByteArray), (⟨#[]⟩ : ByteArray), bt156.1))))))) = some (r1, r2, r3, r4) := H
  have A2 := Aside0.mk A20
  clear A20
  replace H := Option.bind_eq_some_iff.mp H
  obtain ⟨⟨t146, t147, t148⟩, A30, H⟩ := H
  replace H : ((pack_Reader_Text.f k t147 t148).bind fun bt150 => ((pack_Reader_Rest.f bt150.2.1 bt150.2.2).bind fun bt153 => ((pack_Reader_End.f bt153.2.1 bt153.2.2).bind fun bt156 => (if bt156.1 = 0 then (if (bt153.1.size : Int) < 32 then (some ((⟨#[]⟩ : ByteArray), (⟨#[]⟩ : ByteArray), (⟨#[]⟩ : ByteArray), 3)) else (if 0 ≤ 32 then (if 32 ≤ (bt153.1.size : Int) then ((digest_Sum.f bt150.1).bind fun t159 => (if (bt153.1.extract 0 32).toList = t159.toList then ((needle_Check.f t146 bt150.1).bind fun t160 => (if t160 = 0 then (some (t146, bt150.1, bt153.1.extract 32 bt153.1.size, 0)) else (some ((⟨#[]⟩ : ByteArray), (⟨#[]⟩ : ByteArray), (⟨#[]⟩ : ByteArray), t160)))) else (some ((⟨#[]⟩ : ByteArray), (⟨#[]⟩ : ByteArray), (⟨#[]⟩ : ByteArray), 5)))) else (none)) else (none))) else (some ((⟨#[]⟩ : ByteArray), (⟨#[]⟩ : ByteArray), (⟨#[]⟩ : ByteArray), bt156.1)))))) = some (r1, r2, r3, r4) := H
  have A3 := Aside0.mk A30
  clear A30
  replace H := Option.bind_eq_some_iff.mp H
  obtain ⟨⟨t150, t151, t152⟩, A40, H⟩ := H
  replace H : ((pack_Reader_Rest.f t151 t152).bind fun bt153 => ((pack_Reader_End.f bt153.2.1 bt153.2.2).bind fun bt156 => (if bt156.1 = 0 then (if (bt153.1.size : Int) < 32 then (some ((⟨#[]⟩ : ByteArray), (⟨#[]⟩ : ByteArray), (⟨#[]⟩ : ByteArray), 3)) else (if 0 ≤ 32 then (if 32 ≤ (bt153.1.size : Int) then ((digest_Sum.f t150).bind fun t159 => (if (bt153.1.extract 0 32).toList = t159.toList then ((needle_Check.f t146 t150).bind fun t160 => (if t160 = 0 then (some (t146, t150, bt153.1.extract 32 bt153.1.size, 0)) else (some ((⟨#[]⟩ : ByteArray), (⟨#[]⟩ : ByteArray), (⟨#[]⟩ : ByteArray), t160)))) else (some ((⟨#[]⟩ : ByteArray), (⟨#[]⟩ : ByteArray), (⟨#[]⟩ : ByteArray), 5)))) else (none)) else (none))) else (some ((⟨#[]⟩ : ByteArray), (⟨#[]⟩ : ByteArray), (⟨#[]⟩ : ByteArray), bt156.1))))) = some (r1, r2, r3, r4) := H
  have A4 := Aside0.mk A40
  clear A40
  replace H := Option.bind_eq_some_iff.mp H
  obtain ⟨⟨t153, t154, t155⟩, A50, H⟩ := H
  replace H : ((pack_Reader_End.f t154 t155).bind fun bt156 => (if bt156.1 = 0 then (if (t153.size : Int) < 32 then (some ((⟨#[]⟩ : ByteArray), (⟨#[]⟩ : ByteArray), (⟨#[]⟩ : ByteArray), 3)) else (if 0 ≤ 32 then (if 32 ≤ (t153.size : Int) then ((digest_Sum.f t150).bind fun t159 => (if (t153.extract 0 32).toList = t159.toList then ((needle_Check.f t146 t150).bind fun t160 => (if t160 = 0 then (some (t146, t150, t153.extract 32 t153.size, 0)) else (some ((⟨#[]⟩ : ByteArray), (⟨#[]⟩ : ByteArray), (⟨#[]⟩ : ByteArray), t160)))) else (some ((⟨#[]⟩ : ByteArray), (⟨#[]⟩ : ByteArray), (⟨#[]⟩ : ByteArray), 5)))) else (none)) else (none))) else (some ((⟨#[]⟩ : ByteArray), (⟨#[]⟩ : ByteArray), (⟨#[]⟩ : ByteArray), bt156.1)))) = some (r1, r2, r3, r4) := H
  have A5 := Aside0.mk A50
  clear A50
  replace H := Option.bind_eq_some_iff.mp H
  obtain ⟨⟨t156, t157, t158⟩, A60, H⟩ := H
  replace H : (if t156 = 0 then (if (t153.size : Int) < 32 then (some ((⟨#[]⟩ : ByteArray), (⟨#[]⟩ : ByteArray), (⟨#[]⟩ : ByteArray), 3)) else (if 0 ≤ 32 then (if 32 ≤ (t153.size : Int) then ((digest_Sum.f t150).bind fun t159 => (if (t153.extract 0 32).toList = t159.toList then ((needle_Check.f t146 t150).bind fun t160 => (if t160 = 0 then (some (t146, t150, t153.extract 32 t153.size, 0)) else (some ((⟨#[]⟩ : ByteArray), (⟨#[]⟩ : ByteArray), (⟨#[]⟩ : ByteArray), t160)))) else (some ((⟨#[]⟩ : ByteArray), (⟨#[]⟩ : ByteArray), (⟨#[]⟩ : ByteArray), 5)))) else (none)) else (none))) else (some ((⟨#[]⟩ : ByteArray), (⟨#[]⟩ : ByteArray), (⟨#[]⟩ : ByteArray), t156))) = some (r1, r2, r3, r4) := H
  have A6 := Aside0.mk A60
  clear A60
  by_cases c7 : t156 = 0
  · rw [if_pos c7] at H
    have c7b0 : (t156 == 0) = true := beq_iff_eq.mpr c7
    have c7b1 : (t156 != 0) = false := bne_eq_false_iff_eq.mpr c7
    clear c7
    by_cases c8 : (t153.size : Int) < 32
    · rw [if_pos c8] at H
      have c8b0 : decide ((t153.size : Int) < 32) = true := decide_eq_true c8
      have c8b1 : decide (t153.size < 32) = true := decide_eq_true (by omega)
      clear c8
      simp only [Option.some.injEq, Prod.mk.injEq] at H
      obtain ⟨rfl, rfl, rfl, rfl⟩ := H
      go_enter Tryd.func15, Tryd.ntmps15
      go_wp2_with (first | ((with_reducible refine gate_dst (N := 2) rfl ?_); refine box_event ?hg (N := 2) ?hd (cs := #[.string (⟨#[]⟩ : ByteArray), .string (⟨#[]⟩ : ByteArray)]) (t := 28) ?hr ?_; (case hd => rfl); (case hg => rfl); (case hr => first | (go_simp; done) | (go_simp; rfl)); intro gb142 hg w9 hbox hb; have n0_ := Aside0.mk (below_step (by repeat (first | (with_reducible first | exact HB.out | apply below_alloc | apply pw_below_drewN | apply below_drew1) | exact HB.out)) hb); have n1_ := Aside0.mk (hbox); have n2_ := Aside0.mk ((by rw [hg]; exact (below_size (by repeat (first | (with_reducible first | exact HB.out | apply below_alloc | apply pw_below_drewN | apply below_drew1) | exact HB.out))) : w.heap.size ≤ gb142)); have n3_ := Aside0.mk ((by rw [hg]; exact (below_size (by repeat (first | (with_reducible first | exact HB.out | apply below_alloc | apply pw_below_drewN | apply below_drew1) | exact HB.out))) : w.heap.size ≤ gb142)); clear HB; have HB := n0_; have BK142 := n1_; have GW142 := n2_; have GE142 := n3_; clear n0_ n1_ n2_ n3_; clear hb hbox hg) | ((with_reducible refine gate_callee (f := 35) rfl ?_); refine goesL_ (some 11) rfl rfl Tryd.func35 (by kernel_rfl) rfl #[.string a0] rfl (by (try simp only [List.map_toArray, List.map_cons, List.map_nil]); first | done | rfl | (simp only [List.length_drop, List.length_take]; rfl)) ?_; (with_reducible refine (pack_Read.calls a0 t143 t144 w _ ?side1 A2.out).mono ?_); (case side1 => repeat (first | (with_reducible first | exact HB.out | apply below_alloc | apply pw_below_drewN | apply below_drew1 | refine below_set ?_ GE142.out) | exact HB.out)); rintro e w10 ⟨g145, rfl, hi, hb, hb2⟩; refine ⟨_, rfl, ?_⟩; have n0_ := Aside0.mk (blk_below (g := gb142) (o := .cells #[.string (⟨#[]⟩ : ByteArray), .string (⟨#[]⟩ : ByteArray)] 28 (0, 0)) (by (with_reducible repeat (first | refine blk_drewN ?_ _ | refine blk_drew ?_ | refine blk_alloc ?_ _)); exact BK142.out) hb2); have n1_ := Aside0.mk (hb); have n2_ := Aside0.mk (hi); have n3_ := Aside0.mk (IsS88.ne_blk hi (blk_below (g := gb142) (o := .cells #[.string (⟨#[]⟩ : ByteArray), .string (⟨#[]⟩ : ByteArray)] 28 (0, 0)) (by (with_reducible repeat (first | refine blk_drewN ?_ _ | refine blk_drew ?_ | refine blk_alloc ?_ _)); exact BK142.out) hb2) (by decide)); have n4_ := Aside0.mk (Ne.symm (IsS88.ne_blk hi (blk_below (g := gb142) (o := .cells #[.string (⟨#[]⟩ : ByteArray), .string (⟨#[]⟩ : ByteArray)] 28 (0, 0)) (by (with_reducible repeat (first | refine blk_drewN ?_ _ | refine blk_drew ?_ | refine blk_alloc ?_ _)); exact BK142.out) hb2) (by decide))); clear BK142; clear HB; have BK142 := n0_; have HB := n1_; have HI145 := n2_; have NB145_142 := n3_; have NB142_145 := n4_; clear n0_ n1_ n2_ n3_ n4_; (try clear hb); (try clear hb2); (try clear hk); (try clear hi)) | ((with_reducible refine gate_callee (f := 36) rfl ?_); refine goesL_ (some 13) rfl rfl Tryd.func36 (by kernel_rfl) rfl #[.pointer (some ⟨g145, 0, none⟩)] rfl (by (try simp only [List.map_toArray, List.map_cons, List.map_nil]); first | done | rfl | (simp only [List.length_drop, List.length_take]; rfl)) ?_; (with_reducible refine (pack_Reader_Text.calls k g145 t143 t144 t146 t147 t148 w _ ?side1 ?side2 A3.out).mono ?_); (case side1 => repeat (first | (with_reducible first | exact HI145.out | apply IsS88.alloc | apply IsS88.drewN | apply IsS88.drew | apply IsS88.set_0 | apply IsS88.set_1 | refine IsS88.far ?_ NB145_142.out _) | exact HI145.out)); (case side2 => repeat (first | (with_reducible first | exact HB.out | apply below_alloc | apply pw_below_drewN | apply below_drew1 | refine below_set ?_ (IsS88.ge HI145.out) | refine below_set ?_ GE142.out) | exact HB.out)); rintro e w11 ⟨rfl, hi, hb, hk⟩; refine ⟨_, rfl, ?_⟩; have n0_ := Aside0.mk (KeepBut.blk hk (g' := gb142) (o := .cells #[.string (⟨#[]⟩ : ByteArray), .string (⟨#[]⟩ : ByteArray)] 28 (0, 0)) (by (with_reducible repeat (first | refine blk_drewN ?_ _ | refine blk_drew ?_ | refine blk_alloc ?_ _)); exact BK142.out) NB142_145.out (by simp)); have n1_ := Aside0.mk (hb); have n2_ := Aside0.mk (hi); clear BK142; clear HB; clear HI145; have BK142 := n0_; have HB := n1_; have HI145 := n2_; clear n0_ n1_ n2_; (try clear hb); (try clear hb2); (try clear hk); (try clear hi)) | ((with_reducible refine gate_dst (N := 6) rfl ?_); refine box_event ?hg (N := 6) ?hd (cs := #[.string (⟨#[]⟩ : ByteArray), .string (⟨#[]⟩ : ByteArray)]) (t := 28) ?hr ?_; (case hd => rfl); (case hg => rfl); (case hr => first | (go_simp; done) | (go_simp; rfl)); intro gb149 hg w12 hbox hb; have n0_ := Aside0.mk (blk_below (g := gb142) (o := .cells #[.string (⟨#[]⟩ : ByteArray), .string (⟨#[]⟩ : ByteArray)] 28 (0, 0)) (by (with_reducible repeat (first | refine blk_drewN ?_ _ | refine blk_drew ?_ | refine blk_alloc ?_ _)); exact BK142.out) hb); have n1_ := Aside0.mk (IsS88.below (by repeat (first | (with_reducible first | exact HI145.out | apply IsS88.alloc | apply IsS88.drewN | apply IsS88.drew | apply IsS88.set_0 | apply IsS88.set_1 | refine IsS88.far ?_ NB145_142.out _) | exact HI145.out)) hb); have n2_ := Aside0.mk (below_step (by repeat (first | (with_reducible first | exact HB.out | apply below_alloc | apply pw_below_drewN | apply below_drew1 | refine below_set ?_ (IsS88.ge HI145.out) | refine below_set ?_ GE142.out) | exact HB.out)) hb); have n3_ := Aside0.mk (hbox); have n4_ := Aside0.mk ((by rw [hg]; exact (below_size (by repeat (first | (with_reducible first | exact HB.out | apply below_alloc | apply pw_below_drewN | apply below_drew1 | refine below_set ?_ (IsS88.ge HI145.out) | refine below_set ?_ GE142.out) | exact HB.out))) : w.heap.size ≤ gb149)); have n5_ := Aside0.mk ((by rw [hg]; exact (below_size (by repeat (first | (with_reducible first | exact HB.out | apply below_alloc | apply pw_below_drewN | apply below_drew1 | refine below_set ?_ (IsS88.ge HI145.out) | refine below_set ?_ GE142.out) | exact HB.out))) : w.heap.size ≤ gb149)); have n6_ := Aside0.mk ((by rw [hg]; exact Nat.ne_of_lt (blk_lt (g := gb142) (o := .cells #[.string (⟨#[]⟩ : ByteArray), .string (⟨#[]⟩ : ByteArray)] 28 (0, 0)) (by (with_reducible repeat (first | refine blk_drewN ?_ _ | refine blk_drew ?_ | refine blk_alloc ?_ _)); exact BK142.out)) : gb142 ≠ gb149)); have n7_ := Aside0.mk ((by rw [hg]; exact Nat.ne_of_gt (blk_lt (g := gb142) (o := .cells #[.string (⟨#[]⟩ : ByteArray), .string (⟨#[]⟩ : ByteArray)] 28 (0, 0)) (by (with_reducible repeat (first | refine blk_drewN ?_ _ | refine blk_drew ?_ | refine blk_alloc ?_ _)); exact BK142.out)) : gb149 ≠ gb142)); have n8_ := Aside0.mk ((by rw [hg]; exact Nat.ne_of_lt (IsS88.lt (show IsS88 w _ g145 t147 t148 from by repeat (first | (with_reducible first | exact HI145.out | apply IsS88.alloc | apply IsS88.drewN | apply IsS88.drew | apply IsS88.set_0 | apply IsS88.set_1 | refine IsS88.far ?_ NB145_142.out _) | exact HI145.out))) : g145 ≠ gb149)); have n9_ := Aside0.mk ((by rw [hg]; exact Nat.ne_of_gt (IsS88.lt (show IsS88 w _ g145 t147 t148 from by repeat (first | (with_reducible first | exact HI145.out | apply IsS88.alloc | apply IsS88.drewN | apply IsS88.drew | apply IsS88.set_0 | apply IsS88.set_1 | refine IsS88.far ?_ NB145_142.out _) | exact HI145.out))) : gb149 ≠ g145)); clear BK142; clear HI145; clear HB; have BK142 := n0_; have HI145 := n1_; have HB := n2_; have BK149 := n3_; have GW149 := n4_; have GE149 := n5_; have NB142_149 := n6_; have NB149_142 := n7_; have NB145_149 := n8_; have NB149_145 := n9_; clear n0_ n1_ n2_ n3_ n4_ n5_ n6_ n7_ n8_ n9_; clear hb hbox hg; have hnb13 := NB149_142.out; have hnc13 := NB142_149.out; have hnb14 := NB149_145.out; have hnc14 := NB145_149.out; have hcz15_0 : w12.cell? ⟨gb149, 0, none⟩ = some (.string (⟨#[]⟩ : ByteArray)) := (blk_cell BK149.out 0).trans rfl; have hcz15_1 : w12.cell? ⟨gb149, 1, none⟩ = some (.string (⟨#[]⟩ : ByteArray)) := (blk_cell BK149.out 1).trans rfl; have hfz15_0 := blk_frozen BK149.out 0; have hfz15_1 := blk_frozen BK149.out 1) | ((with_reducible refine gate_callee (f := 36) rfl ?_); refine goesL_ (some 16) rfl rfl Tryd.func36 (by kernel_rfl) rfl #[.pointer (some ⟨g145, 0, none⟩)] rfl (by (try simp only [List.map_toArray, List.map_cons, List.map_nil]); first | done | rfl | (simp only [List.length_drop, List.length_take]; rfl)) ?_; (with_reducible refine (pack_Reader_Text.calls k g145 t147 t148 t150 t151 t152 w _ ?side1 ?side2 A4.out).mono ?_); (case side1 => repeat (first | (with_reducible first | exact HI145.out | apply IsS88.alloc | apply IsS88.drewN | apply IsS88.drew | apply IsS88.set_0 | apply IsS88.set_1 | refine IsS88.far ?_ NB145_142.out _ | refine IsS88.far ?_ NB145_149.out _) | exact HI145.out)); (case side2 => repeat (first | (with_reducible first | exact HB.out | apply below_alloc | apply pw_below_drewN | apply below_drew1 | refine below_set ?_ (IsS88.ge HI145.out) | refine below_set ?_ GE142.out | refine below_set ?_ GE149.out) | exact HB.out)); rintro e w16 ⟨rfl, hi, hb, hk⟩; refine ⟨_, rfl, ?_⟩; have n0_ := Aside0.mk (KeepBut.blk hk (g' := gb142) (o := .cells #[.string (⟨#[]⟩ : ByteArray), .string (⟨#[]⟩ : ByteArray)] 28 (0, 0)) (by (with_reducible repeat (first | refine blk_drewN ?_ _ | refine blk_drew ?_ | refine blk_alloc ?_ _)); refine blk_far ?_ NB142_149.out _; (with_reducible repeat (first | refine blk_drewN ?_ _ | refine blk_drew ?_ | refine blk_alloc ?_ _)); refine blk_far ?_ NB142_149.out _; (with_reducible repeat (first | refine blk_drewN ?_ _ | refine blk_drew ?_ | refine blk_alloc ?_ _)); exact BK142.out) NB142_145.out (by simp)); have n1_ := Aside0.mk (KeepBut.blk hk (g' := gb149) (o := .cells #[.string t146, .string (⟨#[]⟩ : ByteArray)] 28 (0, 0)) (by (with_reducible repeat (first | refine blk_drewN ?_ _ | refine blk_drew ?_ | refine blk_alloc ?_ _)); refine blk_put (cs := #[.string t146, .string (⟨#[]⟩ : ByteArray)]) ?_ 1 _ rfl; (with_reducible repeat (first | refine blk_drewN ?_ _ | refine blk_drew ?_ | refine blk_alloc ?_ _)); refine blk_put (cs := #[.string (⟨#[]⟩ : ByteArray), .string (⟨#[]⟩ : ByteArray)]) ?_ 0 _ rfl; (with_reducible repeat (first | refine blk_drewN ?_ _ | refine blk_drew ?_ | refine blk_alloc ?_ _)); exact BK149.out) NB149_145.out (by simp)); have n2_ := Aside0.mk (hb); have n3_ := Aside0.mk (hi); clear BK142; clear BK149; clear HB; clear HI145; have BK142 := n0_; have BK149 := n1_; have HB := n2_; have HI145 := n3_; clear n0_ n1_ n2_ n3_; (try clear hb); (try clear hb2); (try clear hk); (try clear hi); have hcz17_0 : w16.cell? ⟨gb149, 0, none⟩ = some (.string t146) := (blk_cell BK149.out 0).trans rfl; have hcz17_1 : w16.cell? ⟨gb149, 1, none⟩ = some (.string (⟨#[]⟩ : ByteArray)) := (blk_cell BK149.out 1).trans rfl; have hfz17_0 := blk_frozen BK149.out 0; have hfz17_1 := blk_frozen BK149.out 1) | ((with_reducible refine gate_callee (f := 37) rfl ?_); refine goesL_ (some 19) rfl rfl Tryd.func37 (by kernel_rfl) rfl #[.pointer (some ⟨g145, 0, none⟩)] rfl (by (try simp only [List.map_toArray, List.map_cons, List.map_nil]); first | done | rfl | (simp only [List.length_drop, List.length_take]; rfl)) ?_; (with_reducible refine (pack_Reader_Rest.calls g145 t151 t152 t153 t154 t155 w _ ?side1 ?side2 A5.out).mono ?_); (case side1 => repeat (first | (with_reducible first | exact HI145.out | apply IsS88.alloc | apply IsS88.drewN | apply IsS88.drew | apply IsS88.set_0 | apply IsS88.set_1 | refine IsS88.far ?_ NB145_142.out _ | refine IsS88.far ?_ NB145_149.out _) | exact HI145.out)); (case side2 => repeat (first | (with_reducible first | exact HB.out | apply below_alloc | apply pw_below_drewN | apply below_drew1 | refine below_set ?_ (IsS88.ge HI145.out) | refine below_set ?_ GE142.out | refine below_set ?_ GE149.out) | exact HB.out)); rintro e w18 ⟨rfl, hi, hb, hk⟩; refine ⟨_, rfl, ?_⟩; have n0_ := Aside0.mk (KeepBut.blk hk (g' := gb142) (o := .cells #[.string (⟨#[]⟩ : ByteArray), .string (⟨#[]⟩ : ByteArray)] 28 (0, 0)) (by (with_reducible repeat (first | refine blk_drewN ?_ _ | refine blk_drew ?_ | refine blk_alloc ?_ _)); refine blk_far ?_ NB142_149.out _; (with_reducible repeat (first | refine blk_drewN ?_ _ | refine blk_drew ?_ | refine blk_alloc ?_ _)); exact BK142.out) NB142_145.out (by simp)); have n1_ := Aside0.mk (KeepBut.blk hk (g' := gb149) (o := .cells #[.string t146, .string t150] 28 (0, 0)) (by (with_reducible repeat (first | refine blk_drewN ?_ _ | refine blk_drew ?_ | refine blk_alloc ?_ _)); refine blk_put (cs := #[.string t146, .string (⟨#[]⟩ : ByteArray)]) ?_ 1 _ rfl; (with_reducible repeat (first | refine blk_drewN ?_ _ | refine blk_drew ?_ | refine blk_alloc ?_ _)); exact BK149.out) NB149_145.out (by simp)); have n2_ := Aside0.mk (hb); have n3_ := Aside0.mk (hi); clear BK142; clear BK149; clear HB; clear HI145; have BK142 := n0_; have BK149 := n1_; have HB := n2_; have HI145 := n3_; clear n0_ n1_ n2_ n3_; (try clear hb); (try clear hb2); (try clear hk); (try clear hi)) | ((with_reducible refine gate_callee (f := 38) rfl ?_); refine goesL_ (some 21) rfl rfl Tryd.func38 (by kernel_rfl) rfl #[.pointer (some ⟨g145, 0, none⟩)] rfl (by (try simp only [List.map_toArray, List.map_cons, List.map_nil]); first | done | rfl | (simp only [List.length_drop, List.length_take]; rfl)) ?_; (with_reducible refine (pack_Reader_End.calls g145 t154 t155 t156 t157 t158 w _ ?side1 ?side2 A6.out).mono ?_); (case side1 => repeat (first | (with_reducible first | exact HI145.out | apply IsS88.alloc | apply IsS88.drewN | apply IsS88.drew | apply IsS88.set_0 | apply IsS88.set_1 | refine IsS88.far ?_ NB145_142.out _ | refine IsS88.far ?_ NB145_149.out _) | exact HI145.out)); (case side2 => repeat (first | (with_reducible first | exact HB.out | apply below_alloc | apply pw_below_drewN | apply below_drew1 | refine below_set ?_ (IsS88.ge HI145.out) | refine below_set ?_ GE142.out | refine below_set ?_ GE149.out) | exact HB.out)); rintro e w19 ⟨rfl, hi, hb, hk⟩; refine ⟨_, rfl, ?_⟩; have n0_ := Aside0.mk (KeepBut.blk hk (g' := gb142) (o := .cells #[.string (⟨#[]⟩ : ByteArray), .string (⟨#[]⟩ : ByteArray)] 28 (0, 0)) (by (with_reducible repeat (first | refine blk_drewN ?_ _ | refine blk_drew ?_ | refine blk_alloc ?_ _)); exact BK142.out) NB142_145.out (by simp)); have n1_ := Aside0.mk (KeepBut.blk hk (g' := gb149) (o := .cells #[.string t146, .string t150] 28 (0, 0)) (by (with_reducible repeat (first | refine blk_drewN ?_ _ | refine blk_drew ?_ | refine blk_alloc ?_ _)); exact BK149.out) NB149_145.out (by simp)); have n2_ := Aside0.mk (hb); have n3_ := Aside0.mk (hi); clear BK142; clear BK149; clear HB; clear HI145; have BK142 := n0_; have BK149 := n1_; have HB := n2_; have HI145 := n3_; clear n0_ n1_ n2_ n3_; (try clear hb); (try clear hb2); (try clear hk); (try clear hi); have hnb20 := NB142_145.out; have hnc20 := NB145_142.out; have hcz21_0 : w19.cell? ⟨gb142, 0, none⟩ = some (.string (⟨#[]⟩ : ByteArray)) := (blk_cell BK142.out 0).trans rfl; have hcz21_1 : w19.cell? ⟨gb142, 1, none⟩ = some (.string (⟨#[]⟩ : ByteArray)) := (blk_cell BK142.out 1).trans rfl; have hfz21_0 := blk_frozen BK142.out 0; have hfz21_1 := blk_frozen BK142.out 1))
      refine bodyPost_ret (results_ctt rfl _ _ gb142 28 #[.string (⟨#[]⟩ : ByteArray), .string (⟨#[]⟩ : ByteArray)] (0, 0) _ rfl (by (with_reducible repeat (first | refine blk_drewN ?_ _ | refine blk_drew ?_ | refine blk_alloc ?_ _)); refine blk_put (cs := #[.string (⟨#[]⟩ : ByteArray), .string (⟨#[]⟩ : ByteArray)]) ?_ 1 _ rfl; (with_reducible repeat (first | refine blk_drewN ?_ _ | refine blk_drew ?_ | refine blk_alloc ?_ _)); refine blk_put (cs := #[.string (⟨#[]⟩ : ByteArray), .string (⟨#[]⟩ : ByteArray)]) ?_ 0 _ rfl; (with_reducible repeat (first | refine blk_drewN ?_ _ | refine blk_drew ?_ | refine blk_alloc ?_ _)); exact BK142.out) Tryd.underlying28 rfl (by kernel_rfl)) rfl ?_
      exact ⟨by first | rfl | (simp [errW_none, errW_some] <;> rfl) | (simp [*, errW_none, errW_some] <;> rfl), by repeat (first | (with_reducible first | exact HB.out | apply below_alloc | apply pw_below_drewN | apply below_drew1 | refine below_set ?_ (IsS88.ge HI145.out) | refine below_set ?_ GE142.out | refine below_set ?_ GE149.out) | exact HB.out)⟩
    · rw [if_neg c8] at H
      have c8b0 : decide ((t153.size : Int) < 32) = false := decide_eq_false c8
      have c8b1 : decide (t153.size < 32) = false := decide_eq_false (by omega)
      clear c8
      by_cases c22 : 0 ≤ 32
      · rw [if_pos c22] at H
        have c22b0 := eq_true c22
        have c22b1 : decide (0 ≤ 32) = true := decide_eq_true c22
        clear c22
        by_cases c23 : 32 ≤ (t153.size : Int)
        · rw [if_pos c23] at H
          have c23b0 := eq_true c23
          have c23b1 : decide (32 ≤ (t153.size : Int)) = true := decide_eq_true c23
          clear c23
          replace H := Option.bind_eq_some_iff.mp H
          obtain ⟨t159, A240, H⟩ := H
          replace H : (if (t153.extract 0 32).toList = t159.toList then ((needle_Check.f t146 t150).bind fun t160 => (if t160 = 0 then (some (t146, t150, t153.extract 32 t153.size, 0)) else (some ((⟨#[]⟩ : ByteArray), (⟨#[]⟩ : ByteArray), (⟨#[]⟩ : ByteArray), t160)))) else (some ((⟨#[]⟩ : ByteArray), (⟨#[]⟩ : ByteArray), (⟨#[]⟩ : ByteArray), 5))) = some (r1, r2, r3, r4) := H
          have A24 := Aside0.mk A240
          clear A240
          by_cases c25 : (t153.extract 0 32).toList = t159.toList
          · rw [if_pos c25] at H
            have c25b0 : ((t153.extract 0 32).toList == t159.toList) = true := beq_iff_eq.mpr c25
            have c25b1 : ((t153.extract 0 32).toList != t159.toList) = false := bne_eq_false_iff_eq.mpr c25
            clear c25
            replace H := Option.bind_eq_some_iff.mp H
            obtain ⟨t160, A260, H⟩ := H
            replace H : (if t160 = 0 then (some (t146, t150, t153.extract 32 t153.size, 0)) else (some ((⟨#[]⟩ : ByteArray), (⟨#[]⟩ : ByteArray), (⟨#[]⟩ : ByteArray), t160))) = some (r1, r2, r3, r4) := H
            have A26 := Aside0.mk A260
            clear A260
            by_cases c27 : t160 = 0
            · rw [if_pos c27] at H
              have c27b0 : (t160 == 0) = true := beq_iff_eq.mpr c27
              have c27b1 : (t160 != 0) = false := bne_eq_false_iff_eq.mpr c27
              clear c27
              have c28b0 := eq_true (of_decide_eq_true (by first | (with_reducible assumption) | assumption) : 32 ≤ (t153.size : Int))
              simp only [Option.some.injEq, Prod.mk.injEq] at H
              obtain ⟨rfl, rfl, rfl, rfl⟩ := H
              go_enter Tryd.func15, Tryd.ntmps15
              try go_wp2_with (first | ((with_reducible refine gate_dst (N := 2) rfl ?_); refine box_event ?hg (N := 2) ?hd (cs := #[.string (⟨#[]⟩ : ByteArray), .string (⟨#[]⟩ : ByteArray)]) (t := 28) ?hr ?_; (case hd => rfl); (case hg => rfl); (case hr => first | (go_simp; done) | (go_simp; rfl)); intro gb142 hg w29 hbox hb; have n0_ := Aside0.mk (below_step (by repeat (first | (with_reducible first | exact HB.out | apply below_alloc | apply pw_below_drewN | apply below_drew1) | exact HB.out)) hb); have n1_ := Aside0.mk (hbox); have n2_ := Aside0.mk ((by rw [hg]; exact (below_size (by repeat (first | (with_reducible first | exact HB.out | apply below_alloc | apply pw_below_drewN | apply below_drew1) | exact HB.out))) : w.heap.size ≤ gb142)); have n3_ := Aside0.mk ((by rw [hg]; exact (below_size (by repeat (first | (with_reducible first | exact HB.out | apply below_alloc | apply pw_below_drewN | apply below_drew1) | exact HB.out))) : w.heap.size ≤ gb142)); clear HB; have HB := n0_; have BK142 := n1_; have GW142 := n2_; have GE142 := n3_; clear n0_ n1_ n2_ n3_; clear hb hbox hg) | ((with_reducible refine gate_callee (f := 35) rfl ?_); refine goesL_ (some 11) rfl rfl Tryd.func35 (by kernel_rfl) rfl #[.string a0] rfl (by (try simp only [List.map_toArray, List.map_cons, List.map_nil]); first | done | rfl | (simp only [List.length_drop, List.length_take]; rfl)) ?_; (with_reducible refine (pack_Read.calls a0 t143 t144 w _ ?side1 A2.out).mono ?_); (case side1 => repeat (first | (with_reducible first | exact HB.out | apply below_alloc | apply pw_below_drewN | apply below_drew1 | refine below_set ?_ GE142.out) | exact HB.out)); rintro e w30 ⟨g145, rfl, hi, hb, hb2⟩; refine ⟨_, rfl, ?_⟩; have n0_ := Aside0.mk (blk_below (g := gb142) (o := .cells #[.string (⟨#[]⟩ : ByteArray), .string (⟨#[]⟩ : ByteArray)] 28 (0, 0)) (by (with_reducible repeat (first | refine blk_drewN ?_ _ | refine blk_drew ?_ | refine blk_alloc ?_ _)); exact BK142.out) hb2); have n1_ := Aside0.mk (hb); have n2_ := Aside0.mk (hi); have n3_ := Aside0.mk (IsS88.ne_blk hi (blk_below (g := gb142) (o := .cells #[.string (⟨#[]⟩ : ByteArray), .string (⟨#[]⟩ : ByteArray)] 28 (0, 0)) (by (with_reducible repeat (first | refine blk_drewN ?_ _ | refine blk_drew ?_ | refine blk_alloc ?_ _)); exact BK142.out) hb2) (by decide)); have n4_ := Aside0.mk (Ne.symm (IsS88.ne_blk hi (blk_below (g := gb142) (o := .cells #[.string (⟨#[]⟩ : ByteArray), .string (⟨#[]⟩ : ByteArray)] 28 (0, 0)) (by (with_reducible repeat (first | refine blk_drewN ?_ _ | refine blk_drew ?_ | refine blk_alloc ?_ _)); exact BK142.out) hb2) (by decide))); clear BK142; clear HB; have BK142 := n0_; have HB := n1_; have HI145 := n2_; have NB145_142 := n3_; have NB142_145 := n4_; clear n0_ n1_ n2_ n3_ n4_; (try clear hb); (try clear hb2); (try clear hk); (try clear hi)) | ((with_reducible refine gate_callee (f := 36) rfl ?_); refine goesL_ (some 13) rfl rfl Tryd.func36 (by kernel_rfl) rfl #[.pointer (some ⟨g145, 0, none⟩)] rfl (by (try simp only [List.map_toArray, List.map_cons, List.map_nil]); first | done | rfl | (simp only [List.length_drop, List.length_take]; rfl)) ?_; (with_reducible refine (pack_Reader_Text.calls k g145 t143 t144 t146 t147 t148 w _ ?side1 ?side2 A3.out).mono ?_); (case side1 => repeat (first | (with_reducible first | exact HI145.out | apply IsS88.alloc | apply IsS88.drewN | apply IsS88.drew | apply IsS88.set_0 | apply IsS88.set_1 | refine IsS88.far ?_ NB145_142.out _) | exact HI145.out)); (case side2 => repeat (first | (with_reducible first | exact HB.out | apply below_alloc | apply pw_below_drewN | apply below_drew1 | refine below_set ?_ (IsS88.ge HI145.out) | refine below_set ?_ GE142.out) | exact HB.out)); rintro e w31 ⟨rfl, hi, hb, hk⟩; refine ⟨_, rfl, ?_⟩; have n0_ := Aside0.mk (KeepBut.blk hk (g' := gb142) (o := .cells #[.string (⟨#[]⟩ : ByteArray), .string (⟨#[]⟩ : ByteArray)] 28 (0, 0)) (by (with_reducible repeat (first | refine blk_drewN ?_ _ | refine blk_drew ?_ | refine blk_alloc ?_ _)); exact BK142.out) NB142_145.out (by simp)); have n1_ := Aside0.mk (hb); have n2_ := Aside0.mk (hi); clear BK142; clear HB; clear HI145; have BK142 := n0_; have HB := n1_; have HI145 := n2_; clear n0_ n1_ n2_; (try clear hb); (try clear hb2); (try clear hk); (try clear hi)) | ((with_reducible refine gate_dst (N := 6) rfl ?_); refine box_event ?hg (N := 6) ?hd (cs := #[.string (⟨#[]⟩ : ByteArray), .string (⟨#[]⟩ : ByteArray)]) (t := 28) ?hr ?_; (case hd => rfl); (case hg => rfl); (case hr => first | (go_simp; done) | (go_simp; rfl)); intro gb149 hg w32 hbox hb; have n0_ := Aside0.mk (blk_below (g := gb142) (o := .cells #[.string (⟨#[]⟩ : ByteArray), .string (⟨#[]⟩ : ByteArray)] 28 (0, 0)) (by (with_reducible repeat (first | refine blk_drewN ?_ _ | refine blk_drew ?_ | refine blk_alloc ?_ _)); exact BK142.out) hb); have n1_ := Aside0.mk (IsS88.below (by repeat (first | (with_reducible first | exact HI145.out | apply IsS88.alloc | apply IsS88.drewN | apply IsS88.drew | apply IsS88.set_0 | apply IsS88.set_1 | refine IsS88.far ?_ NB145_142.out _) | exact HI145.out)) hb); have n2_ := Aside0.mk (below_step (by repeat (first | (with_reducible first | exact HB.out | apply below_alloc | apply pw_below_drewN | apply below_drew1 | refine below_set ?_ (IsS88.ge HI145.out) | refine below_set ?_ GE142.out) | exact HB.out)) hb); have n3_ := Aside0.mk (hbox); have n4_ := Aside0.mk ((by rw [hg]; exact (below_size (by repeat (first | (with_reducible first | exact HB.out | apply below_alloc | apply pw_below_drewN | apply below_drew1 | refine below_set ?_ (IsS88.ge HI145.out) | refine below_set ?_ GE142.out) | exact HB.out))) : w.heap.size ≤ gb149)); have n5_ := Aside0.mk ((by rw [hg]; exact (below_size (by repeat (first | (with_reducible first | exact HB.out | apply below_alloc | apply pw_below_drewN | apply below_drew1 | refine below_set ?_ (IsS88.ge HI145.out) | refine below_set ?_ GE142.out) | exact HB.out))) : w.heap.size ≤ gb149)); have n6_ := Aside0.mk ((by rw [hg]; exact Nat.ne_of_lt (blk_lt (g := gb142) (o := .cells #[.string (⟨#[]⟩ : ByteArray), .string (⟨#[]⟩ : ByteArray)] 28 (0, 0)) (by (with_reducible repeat (first | refine blk_drewN ?_ _ | refine blk_drew ?_ | refine blk_alloc ?_ _)); exact BK142.out)) : gb142 ≠ gb149)); have n7_ := Aside0.mk ((by rw [hg]; exact Nat.ne_of_gt (blk_lt (g := gb142) (o := .cells #[.string (⟨#[]⟩ : ByteArray), .string (⟨#[]⟩ : ByteArray)] 28 (0, 0)) (by (with_reducible repeat (first | refine blk_drewN ?_ _ | refine blk_drew ?_ | refine blk_alloc ?_ _)); exact BK142.out)) : gb149 ≠ gb142)); have n8_ := Aside0.mk ((by rw [hg]; exact Nat.ne_of_lt (IsS88.lt (show IsS88 w _ g145 t147 t148 from by repeat (first | (with_reducible first | exact HI145.out | apply IsS88.alloc | apply IsS88.drewN | apply IsS88.drew | apply IsS88.set_0 | apply IsS88.set_1 | refine IsS88.far ?_ NB145_142.out _) | exact HI145.out))) : g145 ≠ gb149)); have n9_ := Aside0.mk ((by rw [hg]; exact Nat.ne_of_gt (IsS88.lt (show IsS88 w _ g145 t147 t148 from by repeat (first | (with_reducible first | exact HI145.out | apply IsS88.alloc | apply IsS88.drewN | apply IsS88.drew | apply IsS88.set_0 | apply IsS88.set_1 | refine IsS88.far ?_ NB145_142.out _) | exact HI145.out))) : gb149 ≠ g145)); clear BK142; clear HI145; clear HB; have BK142 := n0_; have HI145 := n1_; have HB := n2_; have BK149 := n3_; have GW149 := n4_; have GE149 := n5_; have NB142_149 := n6_; have NB149_142 := n7_; have NB145_149 := n8_; have NB149_145 := n9_; clear n0_ n1_ n2_ n3_ n4_ n5_ n6_ n7_ n8_ n9_; clear hb hbox hg; have hnb33 := NB149_142.out; have hnc33 := NB142_149.out; have hnb34 := NB149_145.out; have hnc34 := NB145_149.out; have hcz35_0 : w32.cell? ⟨gb149, 0, none⟩ = some (.string (⟨#[]⟩ : ByteArray)) := (blk_cell BK149.out 0).trans rfl; have hcz35_1 : w32.cell? ⟨gb149, 1, none⟩ = some (.string (⟨#[]⟩ : ByteArray)) := (blk_cell BK149.out 1).trans rfl; have hfz35_0 := blk_frozen BK149.out 0; have hfz35_1 := blk_frozen BK149.out 1) | ((with_reducible refine gate_callee (f := 36) rfl ?_); refine goesL_ (some 16) rfl rfl Tryd.func36 (by kernel_rfl) rfl #[.pointer (some ⟨g145, 0, none⟩)] rfl (by (try simp only [List.map_toArray, List.map_cons, List.map_nil]); first | done | rfl | (simp only [List.length_drop, List.length_take]; rfl)) ?_; (with_reducible refine (pack_Reader_Text.calls k g145 t147 t148 t150 t151 t152 w _ ?side1 ?side2 A4.out).mono ?_); (case side1 => repeat (first | (with_reducible first | exact HI145.out | apply IsS88.alloc | apply IsS88.drewN | apply IsS88.drew | apply IsS88.set_0 | apply IsS88.set_1 | refine IsS88.far ?_ NB145_142.out _ | refine IsS88.far ?_ NB145_149.out _) | exact HI145.out)); (case side2 => repeat (first | (with_reducible first | exact HB.out | apply below_alloc | apply pw_below_drewN | apply below_drew1 | refine below_set ?_ (IsS88.ge HI145.out) | refine below_set ?_ GE142.out | refine below_set ?_ GE149.out) | exact HB.out)); rintro e w36 ⟨rfl, hi, hb, hk⟩; refine ⟨_, rfl, ?_⟩; have n0_ := Aside0.mk (KeepBut.blk hk (g' := gb142) (o := .cells #[.string (⟨#[]⟩ : ByteArray), .string (⟨#[]⟩ : ByteArray)] 28 (0, 0)) (by (with_reducible repeat (first | refine blk_drewN ?_ _ | refine blk_drew ?_ | refine blk_alloc ?_ _)); refine blk_far ?_ NB142_149.out _; (with_reducible repeat (first | refine blk_drewN ?_ _ | refine blk_drew ?_ | refine blk_alloc ?_ _)); refine blk_far ?_ NB142_149.out _; (with_reducible repeat (first | refine blk_drewN ?_ _ | refine blk_drew ?_ | refine blk_alloc ?_ _)); exact BK142.out) NB142_145.out (by simp)); have n1_ := Aside0.mk (KeepBut.blk hk (g' := gb149) (o := .cells #[.string t146, .string (⟨#[]⟩ : ByteArray)] 28 (0, 0)) (by (with_reducible repeat (first | refine blk_drewN ?_ _ | refine blk_drew ?_ | refine blk_alloc ?_ _)); refine blk_put (cs := #[.string t146, .string (⟨#[]⟩ : ByteArray)]) ?_ 1 _ rfl; (with_reducible repeat (first | refine blk_drewN ?_ _ | refine blk_drew ?_ | refine blk_alloc ?_ _)); refine blk_put (cs := #[.string (⟨#[]⟩ : ByteArray), .string (⟨#[]⟩ : ByteArray)]) ?_ 0 _ rfl; (with_reducible repeat (first | refine blk_drewN ?_ _ | refine blk_drew ?_ | refine blk_alloc ?_ _)); exact BK149.out) NB149_145.out (by simp)); have n2_ := Aside0.mk (hb); have n3_ := Aside0.mk (hi); clear BK142; clear BK149; clear HB; clear HI145; have BK142 := n0_; have BK149 := n1_; have HB := n2_; have HI145 := n3_; clear n0_ n1_ n2_ n3_; (try clear hb); (try clear hb2); (try clear hk); (try clear hi); have hcz37_0 : w36.cell? ⟨gb149, 0, none⟩ = some (.string t146) := (blk_cell BK149.out 0).trans rfl; have hcz37_1 : w36.cell? ⟨gb149, 1, none⟩ = some (.string (⟨#[]⟩ : ByteArray)) := (blk_cell BK149.out 1).trans rfl; have hfz37_0 := blk_frozen BK149.out 0; have hfz37_1 := blk_frozen BK149.out 1) | ((with_reducible refine gate_callee (f := 37) rfl ?_); refine goesL_ (some 19) rfl rfl Tryd.func37 (by kernel_rfl) rfl #[.pointer (some ⟨g145, 0, none⟩)] rfl (by (try simp only [List.map_toArray, List.map_cons, List.map_nil]); first | done | rfl | (simp only [List.length_drop, List.length_take]; rfl)) ?_; (with_reducible refine (pack_Reader_Rest.calls g145 t151 t152 t153 t154 t155 w _ ?side1 ?side2 A5.out).mono ?_); (case side1 => repeat (first | (with_reducible first | exact HI145.out | apply IsS88.alloc | apply IsS88.drewN | apply IsS88.drew | apply IsS88.set_0 | apply IsS88.set_1 | refine IsS88.far ?_ NB145_142.out _ | refine IsS88.far ?_ NB145_149.out _) | exact HI145.out)); (case side2 => repeat (first | (with_reducible first | exact HB.out | apply below_alloc | apply pw_below_drewN | apply below_drew1 | refine below_set ?_ (IsS88.ge HI145.out) | refine below_set ?_ GE142.out | refine below_set ?_ GE149.out) | exact HB.out)); rintro e w38 ⟨rfl, hi, hb, hk⟩; refine ⟨_, rfl, ?_⟩; have n0_ := Aside0.mk (KeepBut.blk hk (g' := gb142) (o := .cells #[.string (⟨#[]⟩ : ByteArray), .string (⟨#[]⟩ : ByteArray)] 28 (0, 0)) (by (with_reducible repeat (first | refine blk_drewN ?_ _ | refine blk_drew ?_ | refine blk_alloc ?_ _)); refine blk_far ?_ NB142_149.out _; (with_reducible repeat (first | refine blk_drewN ?_ _ | refine blk_drew ?_ | refine blk_alloc ?_ _)); exact BK142.out) NB142_145.out (by simp)); have n1_ := Aside0.mk (KeepBut.blk hk (g' := gb149) (o := .cells #[.string t146, .string t150] 28 (0, 0)) (by (with_reducible repeat (first | refine blk_drewN ?_ _ | refine blk_drew ?_ | refine blk_alloc ?_ _)); refine blk_put (cs := #[.string t146, .string (⟨#[]⟩ : ByteArray)]) ?_ 1 _ rfl; (with_reducible repeat (first | refine blk_drewN ?_ _ | refine blk_drew ?_ | refine blk_alloc ?_ _)); exact BK149.out) NB149_145.out (by simp)); have n2_ := Aside0.mk (hb); have n3_ := Aside0.mk (hi); clear BK142; clear BK149; clear HB; clear HI145; have BK142 := n0_; have BK149 := n1_; have HB := n2_; have HI145 := n3_; clear n0_ n1_ n2_ n3_; (try clear hb); (try clear hb2); (try clear hk); (try clear hi)) | ((with_reducible refine gate_callee (f := 38) rfl ?_); refine goesL_ (some 21) rfl rfl Tryd.func38 (by kernel_rfl) rfl #[.pointer (some ⟨g145, 0, none⟩)] rfl (by (try simp only [List.map_toArray, List.map_cons, List.map_nil]); first | done | rfl | (simp only [List.length_drop, List.length_take]; rfl)) ?_; (with_reducible refine (pack_Reader_End.calls g145 t154 t155 t156 t157 t158 w _ ?side1 ?side2 A6.out).mono ?_); (case side1 => repeat (first | (with_reducible first | exact HI145.out | apply IsS88.alloc | apply IsS88.drewN | apply IsS88.drew | apply IsS88.set_0 | apply IsS88.set_1 | refine IsS88.far ?_ NB145_142.out _ | refine IsS88.far ?_ NB145_149.out _) | exact HI145.out)); (case side2 => repeat (first | (with_reducible first | exact HB.out | apply below_alloc | apply pw_below_drewN | apply below_drew1 | refine below_set ?_ (IsS88.ge HI145.out) | refine below_set ?_ GE142.out | refine below_set ?_ GE149.out) | exact HB.out)); rintro e w39 ⟨rfl, hi, hb, hk⟩; refine ⟨_, rfl, ?_⟩; have n0_ := Aside0.mk (KeepBut.blk hk (g' := gb142) (o := .cells #[.string (⟨#[]⟩ : ByteArray), .string (⟨#[]⟩ : ByteArray)] 28 (0, 0)) (by (with_reducible repeat (first | refine blk_drewN ?_ _ | refine blk_drew ?_ | refine blk_alloc ?_ _)); exact BK142.out) NB142_145.out (by simp)); have n1_ := Aside0.mk (KeepBut.blk hk (g' := gb149) (o := .cells #[.string t146, .string t150] 28 (0, 0)) (by (with_reducible repeat (first | refine blk_drewN ?_ _ | refine blk_drew ?_ | refine blk_alloc ?_ _)); exact BK149.out) NB149_145.out (by simp)); have n2_ := Aside0.mk (hb); have n3_ := Aside0.mk (hi); clear BK142; clear BK149; clear HB; clear HI145; have BK142 := n0_; have BK149 := n1_; have HB := n2_; have HI145 := n3_; clear n0_ n1_ n2_ n3_; (try clear hb); (try clear hb2); (try clear hk); (try clear hi)))
              have n0_ := Aside0.mk (blk_drew BK142.out)
              have n1_ := Aside0.mk (blk_drew BK149.out)
              have n2_ := Aside0.mk (IsS88.drew HI145.out)
              have n3_ := Aside0.mk (below_drew1 HB.out)
              clear BK142
              clear BK149
              clear HI145
              clear HB
              have BK142 := n0_
              have BK149 := n1_
              have HI145 := n2_
              have HB := n3_
              clear n0_ n1_ n2_ n3_
              refine start_ (n := 6) (S := fun w' => w'.cell? ⟨gb149, 0, none⟩ = some (.string t146) ∧ w'.cell? ⟨gb149, 1, none⟩ = some (.string t150)) (ds := []) #[false, false, false, false, false, false] (by kernel_rfl) rfl rfl ⟨(blk_cell BK149.out 0).trans rfl, (blk_cell BK149.out 1).trans rfl⟩ (fun hHeld => ?_)
              generalize w39.drew = w40 at BK142 BK149 HI145 HB hHeld ⊢
              refine pure_ (i := 0) (N := some 30) (v := ?_) (a' := ?_) #[true, false, false, false, false, false] rfl rfl (by kernel_rfl) (fun _ _ _ h => h) (Or.inl ⟨by rfl, ?_⟩) ?_ ?_
              rotate_left
              · intro w'
                go_simp
                with_reducible rfl
              rotate_left
              · simp only [Act.put, List.setIfInBounds_toArray, List.set_cons_zero, List.set_cons_succ, i64_w, i32_w]
                rfl
              refine pure_ (i := 1) (N := some 31) (v := ?_) (a' := ?_) #[true, true, false, false, false, false] rfl rfl (by kernel_rfl) (fun _ _ _ h => h) (Or.inl ⟨by rfl, ?_⟩) ?_ ?_
              rotate_left
              · intro w'
                go_simp
                with_reducible rfl
              rotate_left
              · simp only [Act.put, List.setIfInBounds_toArray, List.set_cons_zero, List.set_cons_succ, i64_w, i32_w]
                rfl
              refine pure_ (i := 2) (N := some 32) (v := ?_) (a' := ?_) #[true, true, true, false, false, false] rfl rfl (by kernel_rfl) (fun _ _ _ h => h) (Or.inl ⟨by rfl, ?_⟩) ?_ ?_
              rotate_left
              · intro w'
                go_simp
                with_reducible rfl
              rotate_left
              · simp only [Act.put, List.setIfInBounds_toArray, List.set_cons_zero, List.set_cons_succ, i64_w, i32_w]
                rfl
              refine take_ (i := 3) (N := some 33) (v := ?_) (a' := ?_) #[true, true, true, true, false, false] rfl rfl (by kernel_rfl) (fun _ _ _ h => h) (Or.inl ⟨by rfl, ?_⟩) hHeld ?_ ?_
              rotate_left
              · rintro w' ⟨s0, s1⟩
                go_simp
                with_reducible rfl
              rotate_left
              · simp only [Act.put, List.setIfInBounds_toArray, List.set_cons_zero, List.set_cons_succ, i64_w, i32_w]
                rfl
              refine one_ (i := 4) (N := some 34) #[true, true, true, true, true, false] rfl rfl (by kernel_rfl) (by decide) (fun K hK => ?_)
              refine goes_ Tryd.func29 (by kernel_rfl) rfl #[.string t150] (by rfl) rfl rfl (by (try simp only [List.map_toArray, List.map_cons, List.map_nil]); first | done | rfl | (simp only [List.length_drop, List.length_take]; rfl)) ?_
              with_reducible refine (digest_Sum.calls t150 t159 _ A24.out).mono ?_
              rintro e w41 ⟨rfl, hb⟩
              refine ⟨_, rfl, ?_⟩
              have n0_ := Aside0.mk (blk_below (g := gb142) (o := .cells #[.string (⟨#[]⟩ : ByteArray), .string (⟨#[]⟩ : ByteArray)] 28 (0, 0)) (by (with_reducible repeat (first | refine blk_drewN ?_ _ | refine blk_drew ?_ | refine blk_alloc ?_ _)); exact BK142.out) hb)
              have n1_ := Aside0.mk (IsS88.below (by repeat (first | (with_reducible first | exact HI145.out | apply IsS88.alloc | apply IsS88.drewN | apply IsS88.drew | apply IsS88.set_0 | apply IsS88.set_1 | refine IsS88.far ?_ NB145_142.out _ | refine IsS88.far ?_ NB145_149.out _) | exact HI145.out)) hb)
              have n2_ := Aside0.mk (blk_below (g := gb149) (o := .cells #[.string t146, .string t150] 28 (0, 0)) (by (with_reducible repeat (first | refine blk_drewN ?_ _ | refine blk_drew ?_ | refine blk_alloc ?_ _)); exact BK149.out) hb)
              have n3_ := Aside0.mk (below_step (by repeat (first | (with_reducible first | exact HB.out | apply below_alloc | apply pw_below_drewN | apply below_drew1 | refine below_set ?_ (IsS88.ge HI145.out) | refine below_set ?_ GE142.out | refine below_set ?_ GE149.out) | exact HB.out)) hb)
              clear BK142
              clear HI145
              clear BK149
              clear HB
              have BK142 := n0_
              have HI145 := n1_
              have BK149 := n2_
              have HB := n3_
              clear n0_ n1_ n2_ n3_
              (try clear hb)
              (try clear hb2)
              (try clear hk)
              (try clear hi)
              refine hK.out _ _ ⟨(blk_cell BK149.out 0).trans rfl, (blk_cell BK149.out 1).trans rfl⟩ (fun hHeld => ?_)
              clear hK K
              refine norm_ (a' := ?_) ?_ ?_
              rotate_left
              · show Act.put _ (some 34) _ = _
                simp only [Act.put, List.setIfInBounds_toArray, List.set_cons_zero, List.set_cons_succ, i64_w, i32_w]
                rfl
              refine pure_ (i := 5) (N := some 35) (v := ?_) (a' := ?_) #[true, true, true, true, true, true] rfl rfl (by kernel_rfl) (fun _ _ _ h => h) (Or.inl ⟨by rfl, ?_⟩) ?_ ?_
              rotate_left
              · intro w'
                go_simp
                with_reducible rfl
              rotate_left
              · simp only [Act.put, List.setIfInBounds_toArray, List.set_cons_zero, List.set_cons_succ, i64_w, i32_w]
                rfl
              refine done_ (by kernel_rfl) ?_
              have hcz42_0 : w41.cell? ⟨gb149, 0, none⟩ = some (.string t146) := (blk_cell BK149.out 0).trans rfl
              have hcz42_1 : w41.cell? ⟨gb149, 1, none⟩ = some (.string t150) := (blk_cell BK149.out 1).trans rfl
              have hfz42_0 := blk_frozen BK149.out 0
              have hfz42_1 := blk_frozen BK149.out 1
              try go_wp2_with (first | ((with_reducible refine gate_callee (f := 13) rfl ?_); refine goesL_ (some 38) rfl rfl Tryd.func13 (by kernel_rfl) rfl #[.agg #[.string t146, .string t150]] rfl (by (try simp only [List.map_toArray, List.map_cons, List.map_nil]); first | done | rfl | (simp only [List.length_drop, List.length_take]; rfl)) ?_; (with_reducible refine (needle_Check.calls t146 t150 t160 _ A26.out).mono ?_); rintro e w43 ⟨rfl, hb⟩; refine ⟨_, rfl, ?_⟩; have n0_ := Aside0.mk (blk_below (g := gb142) (o := .cells #[.string (⟨#[]⟩ : ByteArray), .string (⟨#[]⟩ : ByteArray)] 28 (0, 0)) (by (with_reducible repeat (first | refine blk_drewN ?_ _ | refine blk_drew ?_ | refine blk_alloc ?_ _)); exact BK142.out) hb); have n1_ := Aside0.mk (IsS88.below (by repeat (first | (with_reducible first | exact HI145.out | apply IsS88.alloc | apply IsS88.drewN | apply IsS88.drew | apply IsS88.set_0 | apply IsS88.set_1 | refine IsS88.far ?_ NB145_142.out _ | refine IsS88.far ?_ NB145_149.out _) | exact HI145.out)) hb); have n2_ := Aside0.mk (blk_below (g := gb149) (o := .cells #[.string t146, .string t150] 28 (0, 0)) (by (with_reducible repeat (first | refine blk_drewN ?_ _ | refine blk_drew ?_ | refine blk_alloc ?_ _)); exact BK149.out) hb); have n3_ := Aside0.mk (below_step (by repeat (first | (with_reducible first | exact HB.out | apply below_alloc | apply pw_below_drewN | apply below_drew1 | refine below_set ?_ (IsS88.ge HI145.out) | refine below_set ?_ GE142.out | refine below_set ?_ GE149.out) | exact HB.out)) hb); clear BK142; clear HI145; clear BK149; clear HB; have BK142 := n0_; have HI145 := n1_; have BK149 := n2_; have HB := n3_; clear n0_ n1_ n2_ n3_; (try clear hb); (try clear hb2); (try clear hk); (try clear hi)))
              have n0_ := Aside0.mk (blk_drew BK142.out)
              have n1_ := Aside0.mk (blk_drew BK149.out)
              have n2_ := Aside0.mk (IsS88.drew HI145.out)
              have n3_ := Aside0.mk (below_drew1 HB.out)
              clear BK142
              clear BK149
              clear HI145
              clear HB
              have BK142 := n0_
              have BK149 := n1_
              have HI145 := n2_
              have HB := n3_
              clear n0_ n1_ n2_ n3_
              refine start_ (n := 6) (S := fun w' => w'.cell? ⟨gb149, 0, none⟩ = some (.string t146) ∧ w'.cell? ⟨gb149, 1, none⟩ = some (.string t150)) (ds := []) #[false, false, false, false, false, false] (by kernel_rfl) rfl rfl ⟨(blk_cell BK149.out 0).trans rfl, (blk_cell BK149.out 1).trans rfl⟩ (fun hHeld => ?_)
              generalize w43.drew = w44 at BK142 BK149 HI145 HB hHeld ⊢
              refine pure_ (i := 1) (N := some 44) (v := ?_) (a' := ?_) #[false, true, false, false, false, false] rfl rfl (by kernel_rfl) (fun _ _ _ h => h) (Or.inl ⟨by rfl, ?_⟩) ?_ ?_
              rotate_left
              · intro w'
                go_simp
                with_reducible rfl
              rotate_left
              · simp only [Act.put, List.setIfInBounds_toArray, List.set_cons_zero, List.set_cons_succ, i64_w, i32_w]
                rfl
              refine pure_ (i := 2) (N := some 45) (v := ?_) (a' := ?_) #[false, true, true, false, false, false] rfl rfl (by kernel_rfl) (fun _ _ _ h => h) (Or.inl ⟨by rfl, ?_⟩) ?_ ?_
              rotate_left
              · intro w'
                go_simp
                with_reducible rfl
              rotate_left
              · simp only [Act.put, List.setIfInBounds_toArray, List.set_cons_zero, List.set_cons_succ, i64_w, i32_w]
                rfl
              refine take_ (i := 0) (N := some 43) (v := ?_) (a' := ?_) #[true, true, true, false, false, false] rfl rfl (by kernel_rfl) (fun _ _ _ h => h) (Or.inl ⟨by rfl, ?_⟩) hHeld ?_ ?_
              rotate_left
              · rintro w' ⟨s0, s1⟩
                go_simp
                with_reducible rfl
              rotate_left
              · simp only [Act.put, List.setIfInBounds_toArray, List.set_cons_zero, List.set_cons_succ, i64_w, i32_w]
                rfl
              refine one_ (i := 3) (N := none) #[true, true, true, true, false, false] rfl rfl (by kernel_rfl) (by decide) (fun K hK => ?_)
              have hs45 : w44.cell? ⟨gb142, 0, none⟩ = some (.string (⟨#[]⟩ : ByteArray)) := (blk_cell BK142.out 0).trans rfl
              have hfs45 := blk_frozen BK142.out 0
              have hns45_1 := NB149_142.out
              have hms45_1 := NB142_149.out
              have hs46 : w44.cell? ⟨gb142, 1, none⟩ = some (.string (⟨#[]⟩ : ByteArray)) := (blk_cell BK142.out 1).trans rfl
              have hfs46 := blk_frozen BK142.out 1
              have hns46_1 := NB149_142.out
              have hms46_1 := NB142_149.out
              refine skip_ (w1 := ?_) (by rfl) rfl ?_ ?_
              rotate_left
              · go_simp
                rfl
              refine hK.out _ _ ⟨((cell_far (p := ⟨gb142, _, none⟩) NB149_142.out _).trans (((cell_far (p := ⟨gb142, _, none⟩) NB149_142.out _).trans (hHeld.1)))), ((cell_far (p := ⟨gb142, _, none⟩) NB149_142.out _).trans (((cell_far (p := ⟨gb142, _, none⟩) NB149_142.out _).trans (hHeld.2))))⟩ (fun hHeld => ?_)
              clear hK K
              refine pure_ (i := 4) (N := some 3) (v := ?_) (a' := ?_) #[true, true, true, true, true, false] rfl rfl (by kernel_rfl) (fun _ _ _ h => h) (Or.inl ⟨by rfl, ?_⟩) ?_ ?_
              rotate_left
              · intro w'
                go_simp
                with_reducible rfl
              rotate_left
              · simp only [Act.put, List.setIfInBounds_toArray, List.set_cons_zero, List.set_cons_succ, i64_w, i32_w]
                rfl
              refine pure_ (i := 5) (N := some 4) (v := ?_) (a' := ?_) #[true, true, true, true, true, true] rfl rfl (by kernel_rfl) (fun _ _ _ h => h) (Or.inl ⟨by rfl, ?_⟩) ?_ ?_
              rotate_left
              · intro w'
                go_simp
                with_reducible rfl
              rotate_left
              · simp only [Act.put, List.setIfInBounds_toArray, List.set_cons_zero, List.set_cons_succ, i64_w, i32_w]
                rfl
              refine done_ (by kernel_rfl) ?_
              try go_wp2
              refine bodyPost_ret (results_ctt rfl _ _ gb142 28 #[.string t146, .string t150] (0, 0) _ rfl (by (with_reducible repeat (first | refine blk_drewN ?_ _ | refine blk_drew ?_ | refine blk_alloc ?_ _)); refine blk_put (cs := #[.string t146, .string (⟨#[]⟩ : ByteArray)]) ?_ 1 _ rfl; (with_reducible repeat (first | refine blk_drewN ?_ _ | refine blk_drew ?_ | refine blk_alloc ?_ _)); refine blk_put (cs := #[.string (⟨#[]⟩ : ByteArray), .string (⟨#[]⟩ : ByteArray)]) ?_ 0 _ rfl; (with_reducible repeat (first | refine blk_drewN ?_ _ | refine blk_drew ?_ | refine blk_alloc ?_ _)); exact BK142.out) Tryd.underlying28 rfl (by kernel_rfl)) rfl ?_
              exact ⟨by first | rfl | (simp [errW_none, errW_some] <;> rfl) | (simp [*, errW_none, errW_some] <;> rfl), by repeat (first | (with_reducible first | exact HB.out | apply below_alloc | apply pw_below_drewN | apply below_drew1 | refine below_set ?_ (IsS88.ge HI145.out) | refine below_set ?_ GE142.out | refine below_set ?_ GE149.out) | exact HB.out)⟩
            · rw [if_neg c27] at H
              have c27b0 : (t160 == 0) = false := beq_eq_false_iff_ne.mpr c27
              have c27b1 : (t160 != 0) = true := bne_iff_ne.mpr c27
              simp only [Option.some.injEq, Prod.mk.injEq] at H
              obtain ⟨rfl, rfl, rfl, rfl⟩ := H
              go_enter Tryd.func15, Tryd.ntmps15
              try go_wp2_with (first | ((with_reducible refine gate_dst (N := 2) rfl ?_); refine box_event ?hg (N := 2) ?hd (cs := #[.string (⟨#[]⟩ : ByteArray), .string (⟨#[]⟩ : ByteArray)]) (t := 28) ?hr ?_; (case hd => rfl); (case hg => rfl); (case hr => first | (go_simp; done) | (go_simp; rfl)); intro gb142 hg w47 hbox hb; have n0_ := Aside0.mk (below_step (by repeat (first | (with_reducible first | exact HB.out | apply below_alloc | apply pw_below_drewN | apply below_drew1) | exact HB.out)) hb); have n1_ := Aside0.mk (hbox); have n2_ := Aside0.mk ((by rw [hg]; exact (below_size (by repeat (first | (with_reducible first | exact HB.out | apply below_alloc | apply pw_below_drewN | apply below_drew1) | exact HB.out))) : w.heap.size ≤ gb142)); have n3_ := Aside0.mk ((by rw [hg]; exact (below_size (by repeat (first | (with_reducible first | exact HB.out | apply below_alloc | apply pw_below_drewN | apply below_drew1) | exact HB.out))) : w.heap.size ≤ gb142)); clear HB; have HB := n0_; have BK142 := n1_; have GW142 := n2_; have GE142 := n3_; clear n0_ n1_ n2_ n3_; clear hb hbox hg) | ((with_reducible refine gate_callee (f := 35) rfl ?_); refine goesL_ (some 11) rfl rfl Tryd.func35 (by kernel_rfl) rfl #[.string a0] rfl (by (try simp only [List.map_toArray, List.map_cons, List.map_nil]); first | done | rfl | (simp only [List.length_drop, List.length_take]; rfl)) ?_; (with_reducible refine (pack_Read.calls a0 t143 t144 w _ ?side1 A2.out).mono ?_); (case side1 => repeat (first | (with_reducible first | exact HB.out | apply below_alloc | apply pw_below_drewN | apply below_drew1 | refine below_set ?_ GE142.out) | exact HB.out)); rintro e w48 ⟨g145, rfl, hi, hb, hb2⟩; refine ⟨_, rfl, ?_⟩; have n0_ := Aside0.mk (blk_below (g := gb142) (o := .cells #[.string (⟨#[]⟩ : ByteArray), .string (⟨#[]⟩ : ByteArray)] 28 (0, 0)) (by (with_reducible repeat (first | refine blk_drewN ?_ _ | refine blk_drew ?_ | refine blk_alloc ?_ _)); exact BK142.out) hb2); have n1_ := Aside0.mk (hb); have n2_ := Aside0.mk (hi); have n3_ := Aside0.mk (IsS88.ne_blk hi (blk_below (g := gb142) (o := .cells #[.string (⟨#[]⟩ : ByteArray), .string (⟨#[]⟩ : ByteArray)] 28 (0, 0)) (by (with_reducible repeat (first | refine blk_drewN ?_ _ | refine blk_drew ?_ | refine blk_alloc ?_ _)); exact BK142.out) hb2) (by decide)); have n4_ := Aside0.mk (Ne.symm (IsS88.ne_blk hi (blk_below (g := gb142) (o := .cells #[.string (⟨#[]⟩ : ByteArray), .string (⟨#[]⟩ : ByteArray)] 28 (0, 0)) (by (with_reducible repeat (first | refine blk_drewN ?_ _ | refine blk_drew ?_ | refine blk_alloc ?_ _)); exact BK142.out) hb2) (by decide))); clear BK142; clear HB; have BK142 := n0_; have HB := n1_; have HI145 := n2_; have NB145_142 := n3_; have NB142_145 := n4_; clear n0_ n1_ n2_ n3_ n4_; (try clear hb); (try clear hb2); (try clear hk); (try clear hi)) | ((with_reducible refine gate_callee (f := 36) rfl ?_); refine goesL_ (some 13) rfl rfl Tryd.func36 (by kernel_rfl) rfl #[.pointer (some ⟨g145, 0, none⟩)] rfl (by (try simp only [List.map_toArray, List.map_cons, List.map_nil]); first | done | rfl | (simp only [List.length_drop, List.length_take]; rfl)) ?_; (with_reducible refine (pack_Reader_Text.calls k g145 t143 t144 t146 t147 t148 w _ ?side1 ?side2 A3.out).mono ?_); (case side1 => repeat (first | (with_reducible first | exact HI145.out | apply IsS88.alloc | apply IsS88.drewN | apply IsS88.drew | apply IsS88.set_0 | apply IsS88.set_1 | refine IsS88.far ?_ NB145_142.out _) | exact HI145.out)); (case side2 => repeat (first | (with_reducible first | exact HB.out | apply below_alloc | apply pw_below_drewN | apply below_drew1 | refine below_set ?_ (IsS88.ge HI145.out) | refine below_set ?_ GE142.out) | exact HB.out)); rintro e w49 ⟨rfl, hi, hb, hk⟩; refine ⟨_, rfl, ?_⟩; have n0_ := Aside0.mk (KeepBut.blk hk (g' := gb142) (o := .cells #[.string (⟨#[]⟩ : ByteArray), .string (⟨#[]⟩ : ByteArray)] 28 (0, 0)) (by (with_reducible repeat (first | refine blk_drewN ?_ _ | refine blk_drew ?_ | refine blk_alloc ?_ _)); exact BK142.out) NB142_145.out (by simp)); have n1_ := Aside0.mk (hb); have n2_ := Aside0.mk (hi); clear BK142; clear HB; clear HI145; have BK142 := n0_; have HB := n1_; have HI145 := n2_; clear n0_ n1_ n2_; (try clear hb); (try clear hb2); (try clear hk); (try clear hi)) | ((with_reducible refine gate_dst (N := 6) rfl ?_); refine box_event ?hg (N := 6) ?hd (cs := #[.string (⟨#[]⟩ : ByteArray), .string (⟨#[]⟩ : ByteArray)]) (t := 28) ?hr ?_; (case hd => rfl); (case hg => rfl); (case hr => first | (go_simp; done) | (go_simp; rfl)); intro gb149 hg w50 hbox hb; have n0_ := Aside0.mk (blk_below (g := gb142) (o := .cells #[.string (⟨#[]⟩ : ByteArray), .string (⟨#[]⟩ : ByteArray)] 28 (0, 0)) (by (with_reducible repeat (first | refine blk_drewN ?_ _ | refine blk_drew ?_ | refine blk_alloc ?_ _)); exact BK142.out) hb); have n1_ := Aside0.mk (IsS88.below (by repeat (first | (with_reducible first | exact HI145.out | apply IsS88.alloc | apply IsS88.drewN | apply IsS88.drew | apply IsS88.set_0 | apply IsS88.set_1 | refine IsS88.far ?_ NB145_142.out _) | exact HI145.out)) hb); have n2_ := Aside0.mk (below_step (by repeat (first | (with_reducible first | exact HB.out | apply below_alloc | apply pw_below_drewN | apply below_drew1 | refine below_set ?_ (IsS88.ge HI145.out) | refine below_set ?_ GE142.out) | exact HB.out)) hb); have n3_ := Aside0.mk (hbox); have n4_ := Aside0.mk ((by rw [hg]; exact (below_size (by repeat (first | (with_reducible first | exact HB.out | apply below_alloc | apply pw_below_drewN | apply below_drew1 | refine below_set ?_ (IsS88.ge HI145.out) | refine below_set ?_ GE142.out) | exact HB.out))) : w.heap.size ≤ gb149)); have n5_ := Aside0.mk ((by rw [hg]; exact (below_size (by repeat (first | (with_reducible first | exact HB.out | apply below_alloc | apply pw_below_drewN | apply below_drew1 | refine below_set ?_ (IsS88.ge HI145.out) | refine below_set ?_ GE142.out) | exact HB.out))) : w.heap.size ≤ gb149)); have n6_ := Aside0.mk ((by rw [hg]; exact Nat.ne_of_lt (blk_lt (g := gb142) (o := .cells #[.string (⟨#[]⟩ : ByteArray), .string (⟨#[]⟩ : ByteArray)] 28 (0, 0)) (by (with_reducible repeat (first | refine blk_drewN ?_ _ | refine blk_drew ?_ | refine blk_alloc ?_ _)); exact BK142.out)) : gb142 ≠ gb149)); have n7_ := Aside0.mk ((by rw [hg]; exact Nat.ne_of_gt (blk_lt (g := gb142) (o := .cells #[.string (⟨#[]⟩ : ByteArray), .string (⟨#[]⟩ : ByteArray)] 28 (0, 0)) (by (with_reducible repeat (first | refine blk_drewN ?_ _ | refine blk_drew ?_ | refine blk_alloc ?_ _)); exact BK142.out)) : gb149 ≠ gb142)); have n8_ := Aside0.mk ((by rw [hg]; exact Nat.ne_of_lt (IsS88.lt (show IsS88 w _ g145 t147 t148 from by repeat (first | (with_reducible first | exact HI145.out | apply IsS88.alloc | apply IsS88.drewN | apply IsS88.drew | apply IsS88.set_0 | apply IsS88.set_1 | refine IsS88.far ?_ NB145_142.out _) | exact HI145.out))) : g145 ≠ gb149)); have n9_ := Aside0.mk ((by rw [hg]; exact Nat.ne_of_gt (IsS88.lt (show IsS88 w _ g145 t147 t148 from by repeat (first | (with_reducible first | exact HI145.out | apply IsS88.alloc | apply IsS88.drewN | apply IsS88.drew | apply IsS88.set_0 | apply IsS88.set_1 | refine IsS88.far ?_ NB145_142.out _) | exact HI145.out))) : gb149 ≠ g145)); clear BK142; clear HI145; clear HB; have BK142 := n0_; have HI145 := n1_; have HB := n2_; have BK149 := n3_; have GW149 := n4_; have GE149 := n5_; have NB142_149 := n6_; have NB149_142 := n7_; have NB145_149 := n8_; have NB149_145 := n9_; clear n0_ n1_ n2_ n3_ n4_ n5_ n6_ n7_ n8_ n9_; clear hb hbox hg; have hnb51 := NB149_142.out; have hnc51 := NB142_149.out; have hnb52 := NB149_145.out; have hnc52 := NB145_149.out; have hcz53_0 : w50.cell? ⟨gb149, 0, none⟩ = some (.string (⟨#[]⟩ : ByteArray)) := (blk_cell BK149.out 0).trans rfl; have hcz53_1 : w50.cell? ⟨gb149, 1, none⟩ = some (.string (⟨#[]⟩ : ByteArray)) := (blk_cell BK149.out 1).trans rfl; have hfz53_0 := blk_frozen BK149.out 0; have hfz53_1 := blk_frozen BK149.out 1) | ((with_reducible refine gate_callee (f := 36) rfl ?_); refine goesL_ (some 16) rfl rfl Tryd.func36 (by kernel_rfl) rfl #[.pointer (some ⟨g145, 0, none⟩)] rfl (by (try simp only [List.map_toArray, List.map_cons, List.map_nil]); first | done | rfl | (simp only [List.length_drop, List.length_take]; rfl)) ?_; (with_reducible refine (pack_Reader_Text.calls k g145 t147 t148 t150 t151 t152 w _ ?side1 ?side2 A4.out).mono ?_); (case side1 => repeat (first | (with_reducible first | exact HI145.out | apply IsS88.alloc | apply IsS88.drewN | apply IsS88.drew | apply IsS88.set_0 | apply IsS88.set_1 | refine IsS88.far ?_ NB145_142.out _ | refine IsS88.far ?_ NB145_149.out _) | exact HI145.out)); (case side2 => repeat (first | (with_reducible first | exact HB.out | apply below_alloc | apply pw_below_drewN | apply below_drew1 | refine below_set ?_ (IsS88.ge HI145.out) | refine below_set ?_ GE142.out | refine below_set ?_ GE149.out) | exact HB.out)); rintro e w54 ⟨rfl, hi, hb, hk⟩; refine ⟨_, rfl, ?_⟩; have n0_ := Aside0.mk (KeepBut.blk hk (g' := gb142) (o := .cells #[.string (⟨#[]⟩ : ByteArray), .string (⟨#[]⟩ : ByteArray)] 28 (0, 0)) (by (with_reducible repeat (first | refine blk_drewN ?_ _ | refine blk_drew ?_ | refine blk_alloc ?_ _)); refine blk_far ?_ NB142_149.out _; (with_reducible repeat (first | refine blk_drewN ?_ _ | refine blk_drew ?_ | refine blk_alloc ?_ _)); refine blk_far ?_ NB142_149.out _; (with_reducible repeat (first | refine blk_drewN ?_ _ | refine blk_drew ?_ | refine blk_alloc ?_ _)); exact BK142.out) NB142_145.out (by simp)); have n1_ := Aside0.mk (KeepBut.blk hk (g' := gb149) (o := .cells #[.string t146, .string (⟨#[]⟩ : ByteArray)] 28 (0, 0)) (by (with_reducible repeat (first | refine blk_drewN ?_ _ | refine blk_drew ?_ | refine blk_alloc ?_ _)); refine blk_put (cs := #[.string t146, .string (⟨#[]⟩ : ByteArray)]) ?_ 1 _ rfl; (with_reducible repeat (first | refine blk_drewN ?_ _ | refine blk_drew ?_ | refine blk_alloc ?_ _)); refine blk_put (cs := #[.string (⟨#[]⟩ : ByteArray), .string (⟨#[]⟩ : ByteArray)]) ?_ 0 _ rfl; (with_reducible repeat (first | refine blk_drewN ?_ _ | refine blk_drew ?_ | refine blk_alloc ?_ _)); exact BK149.out) NB149_145.out (by simp)); have n2_ := Aside0.mk (hb); have n3_ := Aside0.mk (hi); clear BK142; clear BK149; clear HB; clear HI145; have BK142 := n0_; have BK149 := n1_; have HB := n2_; have HI145 := n3_; clear n0_ n1_ n2_ n3_; (try clear hb); (try clear hb2); (try clear hk); (try clear hi); have hcz55_0 : w54.cell? ⟨gb149, 0, none⟩ = some (.string t146) := (blk_cell BK149.out 0).trans rfl; have hcz55_1 : w54.cell? ⟨gb149, 1, none⟩ = some (.string (⟨#[]⟩ : ByteArray)) := (blk_cell BK149.out 1).trans rfl; have hfz55_0 := blk_frozen BK149.out 0; have hfz55_1 := blk_frozen BK149.out 1) | ((with_reducible refine gate_callee (f := 37) rfl ?_); refine goesL_ (some 19) rfl rfl Tryd.func37 (by kernel_rfl) rfl #[.pointer (some ⟨g145, 0, none⟩)] rfl (by (try simp only [List.map_toArray, List.map_cons, List.map_nil]); first | done | rfl | (simp only [List.length_drop, List.length_take]; rfl)) ?_; (with_reducible refine (pack_Reader_Rest.calls g145 t151 t152 t153 t154 t155 w _ ?side1 ?side2 A5.out).mono ?_); (case side1 => repeat (first | (with_reducible first | exact HI145.out | apply IsS88.alloc | apply IsS88.drewN | apply IsS88.drew | apply IsS88.set_0 | apply IsS88.set_1 | refine IsS88.far ?_ NB145_142.out _ | refine IsS88.far ?_ NB145_149.out _) | exact HI145.out)); (case side2 => repeat (first | (with_reducible first | exact HB.out | apply below_alloc | apply pw_below_drewN | apply below_drew1 | refine below_set ?_ (IsS88.ge HI145.out) | refine below_set ?_ GE142.out | refine below_set ?_ GE149.out) | exact HB.out)); rintro e w56 ⟨rfl, hi, hb, hk⟩; refine ⟨_, rfl, ?_⟩; have n0_ := Aside0.mk (KeepBut.blk hk (g' := gb142) (o := .cells #[.string (⟨#[]⟩ : ByteArray), .string (⟨#[]⟩ : ByteArray)] 28 (0, 0)) (by (with_reducible repeat (first | refine blk_drewN ?_ _ | refine blk_drew ?_ | refine blk_alloc ?_ _)); refine blk_far ?_ NB142_149.out _; (with_reducible repeat (first | refine blk_drewN ?_ _ | refine blk_drew ?_ | refine blk_alloc ?_ _)); exact BK142.out) NB142_145.out (by simp)); have n1_ := Aside0.mk (KeepBut.blk hk (g' := gb149) (o := .cells #[.string t146, .string t150] 28 (0, 0)) (by (with_reducible repeat (first | refine blk_drewN ?_ _ | refine blk_drew ?_ | refine blk_alloc ?_ _)); refine blk_put (cs := #[.string t146, .string (⟨#[]⟩ : ByteArray)]) ?_ 1 _ rfl; (with_reducible repeat (first | refine blk_drewN ?_ _ | refine blk_drew ?_ | refine blk_alloc ?_ _)); exact BK149.out) NB149_145.out (by simp)); have n2_ := Aside0.mk (hb); have n3_ := Aside0.mk (hi); clear BK142; clear BK149; clear HB; clear HI145; have BK142 := n0_; have BK149 := n1_; have HB := n2_; have HI145 := n3_; clear n0_ n1_ n2_ n3_; (try clear hb); (try clear hb2); (try clear hk); (try clear hi)) | ((with_reducible refine gate_callee (f := 38) rfl ?_); refine goesL_ (some 21) rfl rfl Tryd.func38 (by kernel_rfl) rfl #[.pointer (some ⟨g145, 0, none⟩)] rfl (by (try simp only [List.map_toArray, List.map_cons, List.map_nil]); first | done | rfl | (simp only [List.length_drop, List.length_take]; rfl)) ?_; (with_reducible refine (pack_Reader_End.calls g145 t154 t155 t156 t157 t158 w _ ?side1 ?side2 A6.out).mono ?_); (case side1 => repeat (first | (with_reducible first | exact HI145.out | apply IsS88.alloc | apply IsS88.drewN | apply IsS88.drew | apply IsS88.set_0 | apply IsS88.set_1 | refine IsS88.far ?_ NB145_142.out _ | refine IsS88.far ?_ NB145_149.out _) | exact HI145.out)); (case side2 => repeat (first | (with_reducible first | exact HB.out | apply below_alloc | apply pw_below_drewN | apply below_drew1 | refine below_set ?_ (IsS88.ge HI145.out) | refine below_set ?_ GE142.out | refine below_set ?_ GE149.out) | exact HB.out)); rintro e w57 ⟨rfl, hi, hb, hk⟩; refine ⟨_, rfl, ?_⟩; have n0_ := Aside0.mk (KeepBut.blk hk (g' := gb142) (o := .cells #[.string (⟨#[]⟩ : ByteArray), .string (⟨#[]⟩ : ByteArray)] 28 (0, 0)) (by (with_reducible repeat (first | refine blk_drewN ?_ _ | refine blk_drew ?_ | refine blk_alloc ?_ _)); exact BK142.out) NB142_145.out (by simp)); have n1_ := Aside0.mk (KeepBut.blk hk (g' := gb149) (o := .cells #[.string t146, .string t150] 28 (0, 0)) (by (with_reducible repeat (first | refine blk_drewN ?_ _ | refine blk_drew ?_ | refine blk_alloc ?_ _)); exact BK149.out) NB149_145.out (by simp)); have n2_ := Aside0.mk (hb); have n3_ := Aside0.mk (hi); clear BK142; clear BK149; clear HB; clear HI145; have BK142 := n0_; have BK149 := n1_; have HB := n2_; have HI145 := n3_; clear n0_ n1_ n2_ n3_; (try clear hb); (try clear hb2); (try clear hk); (try clear hi)))
              have n0_ := Aside0.mk (blk_drew BK142.out)
              have n1_ := Aside0.mk (blk_drew BK149.out)
              have n2_ := Aside0.mk (IsS88.drew HI145.out)
              have n3_ := Aside0.mk (below_drew1 HB.out)
              clear BK142
              clear BK149
              clear HI145
              clear HB
              have BK142 := n0_
              have BK149 := n1_
              have HI145 := n2_
              have HB := n3_
              clear n0_ n1_ n2_ n3_
              refine start_ (n := 6) (S := fun w' => w'.cell? ⟨gb149, 0, none⟩ = some (.string t146) ∧ w'.cell? ⟨gb149, 1, none⟩ = some (.string t150)) (ds := []) #[false, false, false, false, false, false] (by kernel_rfl) rfl rfl ⟨(blk_cell BK149.out 0).trans rfl, (blk_cell BK149.out 1).trans rfl⟩ (fun hHeld => ?_)
              generalize w57.drew = w58 at BK142 BK149 HI145 HB hHeld ⊢
              refine pure_ (i := 0) (N := some 30) (v := ?_) (a' := ?_) #[true, false, false, false, false, false] rfl rfl (by kernel_rfl) (fun _ _ _ h => h) (Or.inl ⟨by rfl, ?_⟩) ?_ ?_
              rotate_left
              · intro w'
                go_simp
                with_reducible rfl
              rotate_left
              · simp only [Act.put, List.setIfInBounds_toArray, List.set_cons_zero, List.set_cons_succ, i64_w, i32_w]
                rfl
              refine pure_ (i := 1) (N := some 31) (v := ?_) (a' := ?_) #[true, true, false, false, false, false] rfl rfl (by kernel_rfl) (fun _ _ _ h => h) (Or.inl ⟨by rfl, ?_⟩) ?_ ?_
              rotate_left
              · intro w'
                go_simp
                with_reducible rfl
              rotate_left
              · simp only [Act.put, List.setIfInBounds_toArray, List.set_cons_zero, List.set_cons_succ, i64_w, i32_w]
                rfl
              refine pure_ (i := 2) (N := some 32) (v := ?_) (a' := ?_) #[true, true, true, false, false, false] rfl rfl (by kernel_rfl) (fun _ _ _ h => h) (Or.inl ⟨by rfl, ?_⟩) ?_ ?_
              rotate_left
              · intro w'
                go_simp
                with_reducible rfl
              rotate_left
              · simp only [Act.put, List.setIfInBounds_toArray, List.set_cons_zero, List.set_cons_succ, i64_w, i32_w]
                rfl
              refine take_ (i := 3) (N := some 33) (v := ?_) (a' := ?_) #[true, true, true, true, false, false] rfl rfl (by kernel_rfl) (fun _ _ _ h => h) (Or.inl ⟨by rfl, ?_⟩) hHeld ?_ ?_
              rotate_left
              · rintro w' ⟨s0, s1⟩
                go_simp
                with_reducible rfl
              rotate_left
              · simp only [Act.put, List.setIfInBounds_toArray, List.set_cons_zero, List.set_cons_succ, i64_w, i32_w]
                rfl
              refine one_ (i := 4) (N := some 34) #[true, true, true, true, true, false] rfl rfl (by kernel_rfl) (by decide) (fun K hK => ?_)
              refine goes_ Tryd.func29 (by kernel_rfl) rfl #[.string t150] (by rfl) rfl rfl (by (try simp only [List.map_toArray, List.map_cons, List.map_nil]); first | done | rfl | (simp only [List.length_drop, List.length_take]; rfl)) ?_
              with_reducible refine (digest_Sum.calls t150 t159 _ A24.out).mono ?_
              rintro e w59 ⟨rfl, hb⟩
              refine ⟨_, rfl, ?_⟩
              have n0_ := Aside0.mk (blk_below (g := gb142) (o := .cells #[.string (⟨#[]⟩ : ByteArray), .string (⟨#[]⟩ : ByteArray)] 28 (0, 0)) (by (with_reducible repeat (first | refine blk_drewN ?_ _ | refine blk_drew ?_ | refine blk_alloc ?_ _)); exact BK142.out) hb)
              have n1_ := Aside0.mk (IsS88.below (by repeat (first | (with_reducible first | exact HI145.out | apply IsS88.alloc | apply IsS88.drewN | apply IsS88.drew | apply IsS88.set_0 | apply IsS88.set_1 | refine IsS88.far ?_ NB145_142.out _ | refine IsS88.far ?_ NB145_149.out _) | exact HI145.out)) hb)
              have n2_ := Aside0.mk (blk_below (g := gb149) (o := .cells #[.string t146, .string t150] 28 (0, 0)) (by (with_reducible repeat (first | refine blk_drewN ?_ _ | refine blk_drew ?_ | refine blk_alloc ?_ _)); exact BK149.out) hb)
              have n3_ := Aside0.mk (below_step (by repeat (first | (with_reducible first | exact HB.out | apply below_alloc | apply pw_below_drewN | apply below_drew1 | refine below_set ?_ (IsS88.ge HI145.out) | refine below_set ?_ GE142.out | refine below_set ?_ GE149.out) | exact HB.out)) hb)
              clear BK142
              clear HI145
              clear BK149
              clear HB
              have BK142 := n0_
              have HI145 := n1_
              have BK149 := n2_
              have HB := n3_
              clear n0_ n1_ n2_ n3_
              (try clear hb)
              (try clear hb2)
              (try clear hk)
              (try clear hi)
              refine hK.out _ _ ⟨(blk_cell BK149.out 0).trans rfl, (blk_cell BK149.out 1).trans rfl⟩ (fun hHeld => ?_)
              clear hK K
              refine norm_ (a' := ?_) ?_ ?_
              rotate_left
              · show Act.put _ (some 34) _ = _
                simp only [Act.put, List.setIfInBounds_toArray, List.set_cons_zero, List.set_cons_succ, i64_w, i32_w]
                rfl
              refine pure_ (i := 5) (N := some 35) (v := ?_) (a' := ?_) #[true, true, true, true, true, true] rfl rfl (by kernel_rfl) (fun _ _ _ h => h) (Or.inl ⟨by rfl, ?_⟩) ?_ ?_
              rotate_left
              · intro w'
                go_simp
                with_reducible rfl
              rotate_left
              · simp only [Act.put, List.setIfInBounds_toArray, List.set_cons_zero, List.set_cons_succ, i64_w, i32_w]
                rfl
              refine done_ (by kernel_rfl) ?_
              have hcz60_0 : w59.cell? ⟨gb149, 0, none⟩ = some (.string t146) := (blk_cell BK149.out 0).trans rfl
              have hcz60_1 : w59.cell? ⟨gb149, 1, none⟩ = some (.string t150) := (blk_cell BK149.out 1).trans rfl
              have hfz60_0 := blk_frozen BK149.out 0
              have hfz60_1 := blk_frozen BK149.out 1
              try go_wp2_with (first | ((with_reducible refine gate_callee (f := 13) rfl ?_); refine goesL_ (some 38) rfl rfl Tryd.func13 (by kernel_rfl) rfl #[.agg #[.string t146, .string t150]] rfl (by (try simp only [List.map_toArray, List.map_cons, List.map_nil]); first | done | rfl | (simp only [List.length_drop, List.length_take]; rfl)) ?_; (with_reducible refine (needle_Check.calls t146 t150 t160 _ A26.out).mono ?_); rintro e w61 ⟨rfl, hb⟩; refine ⟨_, rfl, ?_⟩; have n0_ := Aside0.mk (blk_below (g := gb142) (o := .cells #[.string (⟨#[]⟩ : ByteArray), .string (⟨#[]⟩ : ByteArray)] 28 (0, 0)) (by (with_reducible repeat (first | refine blk_drewN ?_ _ | refine blk_drew ?_ | refine blk_alloc ?_ _)); exact BK142.out) hb); have n1_ := Aside0.mk (IsS88.below (by repeat (first | (with_reducible first | exact HI145.out | apply IsS88.alloc | apply IsS88.drewN | apply IsS88.drew | apply IsS88.set_0 | apply IsS88.set_1 | refine IsS88.far ?_ NB145_142.out _ | refine IsS88.far ?_ NB145_149.out _) | exact HI145.out)) hb); have n2_ := Aside0.mk (blk_below (g := gb149) (o := .cells #[.string t146, .string t150] 28 (0, 0)) (by (with_reducible repeat (first | refine blk_drewN ?_ _ | refine blk_drew ?_ | refine blk_alloc ?_ _)); exact BK149.out) hb); have n3_ := Aside0.mk (below_step (by repeat (first | (with_reducible first | exact HB.out | apply below_alloc | apply pw_below_drewN | apply below_drew1 | refine below_set ?_ (IsS88.ge HI145.out) | refine below_set ?_ GE142.out | refine below_set ?_ GE149.out) | exact HB.out)) hb); clear BK142; clear HI145; clear BK149; clear HB; have BK142 := n0_; have HI145 := n1_; have BK149 := n2_; have HB := n3_; clear n0_ n1_ n2_ n3_; (try clear hb); (try clear hb2); (try clear hk); (try clear hi); have hnb62 := NB142_145.out; have hnc62 := NB145_142.out; have hcz63_0 : w61.cell? ⟨gb142, 0, none⟩ = some (.string (⟨#[]⟩ : ByteArray)) := (blk_cell BK142.out 0).trans rfl; have hcz63_1 : w61.cell? ⟨gb142, 1, none⟩ = some (.string (⟨#[]⟩ : ByteArray)) := (blk_cell BK142.out 1).trans rfl; have hfz63_0 := blk_frozen BK142.out 0; have hfz63_1 := blk_frozen BK142.out 1))
              refine bodyPost_ret (results_ctt rfl _ _ gb142 28 #[.string (⟨#[]⟩ : ByteArray), .string (⟨#[]⟩ : ByteArray)] (0, 0) _ rfl (by (with_reducible repeat (first | refine blk_drewN ?_ _ | refine blk_drew ?_ | refine blk_alloc ?_ _)); refine blk_put (cs := #[.string (⟨#[]⟩ : ByteArray), .string (⟨#[]⟩ : ByteArray)]) ?_ 1 _ rfl; (with_reducible repeat (first | refine blk_drewN ?_ _ | refine blk_drew ?_ | refine blk_alloc ?_ _)); refine blk_put (cs := #[.string (⟨#[]⟩ : ByteArray), .string (⟨#[]⟩ : ByteArray)]) ?_ 0 _ rfl; (with_reducible repeat (first | refine blk_drewN ?_ _ | refine blk_drew ?_ | refine blk_alloc ?_ _)); exact BK142.out) Tryd.underlying28 rfl (by kernel_rfl)) rfl ?_
              exact ⟨by first | rfl | (simp [errW_none, errW_some] <;> rfl) | (simp [*, errW_none, errW_some] <;> rfl), by repeat (first | (with_reducible first | exact HB.out | apply below_alloc | apply pw_below_drewN | apply below_drew1 | refine below_set ?_ (IsS88.ge HI145.out) | refine below_set ?_ GE142.out | refine below_set ?_ GE149.out) | exact HB.out)⟩
          · rw [if_neg c25] at H
            have c25b0 : ((t153.extract 0 32).toList == t159.toList) = false := beq_eq_false_iff_ne.mpr c25
            have c25b1 : ((t153.extract 0 32).toList != t159.toList) = true := bne_iff_ne.mpr c25
            simp only [Option.some.injEq, Prod.mk.injEq] at H
            obtain ⟨rfl, rfl, rfl, rfl⟩ := H
            go_enter Tryd.func15, Tryd.ntmps15
            try go_wp2_with (first | ((with_reducible refine gate_dst (N := 2) rfl ?_); refine box_event ?hg (N := 2) ?hd (cs := #[.string (⟨#[]⟩ : ByteArray), .string (⟨#[]⟩ : ByteArray)]) (t := 28) ?hr ?_; (case hd => rfl); (case hg => rfl); (case hr => first | (go_simp; done) | (go_simp; rfl)); intro gb142 hg w64 hbox hb; have n0_ := Aside0.mk (below_step (by repeat (first | (with_reducible first | exact HB.out | apply below_alloc | apply pw_below_drewN | apply below_drew1) | exact HB.out)) hb); have n1_ := Aside0.mk (hbox); have n2_ := Aside0.mk ((by rw [hg]; exact (below_size (by repeat (first | (with_reducible first | exact HB.out | apply below_alloc | apply pw_below_drewN | apply below_drew1) | exact HB.out))) : w.heap.size ≤ gb142)); have n3_ := Aside0.mk ((by rw [hg]; exact (below_size (by repeat (first | (with_reducible first | exact HB.out | apply below_alloc | apply pw_below_drewN | apply below_drew1) | exact HB.out))) : w.heap.size ≤ gb142)); clear HB; have HB := n0_; have BK142 := n1_; have GW142 := n2_; have GE142 := n3_; clear n0_ n1_ n2_ n3_; clear hb hbox hg) | ((with_reducible refine gate_callee (f := 35) rfl ?_); refine goesL_ (some 11) rfl rfl Tryd.func35 (by kernel_rfl) rfl #[.string a0] rfl (by (try simp only [List.map_toArray, List.map_cons, List.map_nil]); first | done | rfl | (simp only [List.length_drop, List.length_take]; rfl)) ?_; (with_reducible refine (pack_Read.calls a0 t143 t144 w _ ?side1 A2.out).mono ?_); (case side1 => repeat (first | (with_reducible first | exact HB.out | apply below_alloc | apply pw_below_drewN | apply below_drew1 | refine below_set ?_ GE142.out) | exact HB.out)); rintro e w65 ⟨g145, rfl, hi, hb, hb2⟩; refine ⟨_, rfl, ?_⟩; have n0_ := Aside0.mk (blk_below (g := gb142) (o := .cells #[.string (⟨#[]⟩ : ByteArray), .string (⟨#[]⟩ : ByteArray)] 28 (0, 0)) (by (with_reducible repeat (first | refine blk_drewN ?_ _ | refine blk_drew ?_ | refine blk_alloc ?_ _)); exact BK142.out) hb2); have n1_ := Aside0.mk (hb); have n2_ := Aside0.mk (hi); have n3_ := Aside0.mk (IsS88.ne_blk hi (blk_below (g := gb142) (o := .cells #[.string (⟨#[]⟩ : ByteArray), .string (⟨#[]⟩ : ByteArray)] 28 (0, 0)) (by (with_reducible repeat (first | refine blk_drewN ?_ _ | refine blk_drew ?_ | refine blk_alloc ?_ _)); exact BK142.out) hb2) (by decide)); have n4_ := Aside0.mk (Ne.symm (IsS88.ne_blk hi (blk_below (g := gb142) (o := .cells #[.string (⟨#[]⟩ : ByteArray), .string (⟨#[]⟩ : ByteArray)] 28 (0, 0)) (by (with_reducible repeat (first | refine blk_drewN ?_ _ | refine blk_drew ?_ | refine blk_alloc ?_ _)); exact BK142.out) hb2) (by decide))); clear BK142; clear HB; have BK142 := n0_; have HB := n1_; have HI145 := n2_; have NB145_142 := n3_; have NB142_145 := n4_; clear n0_ n1_ n2_ n3_ n4_; (try clear hb); (try clear hb2); (try clear hk); (try clear hi)) | ((with_reducible refine gate_callee (f := 36) rfl ?_); refine goesL_ (some 13) rfl rfl Tryd.func36 (by kernel_rfl) rfl #[.pointer (some ⟨g145, 0, none⟩)] rfl (by (try simp only [List.map_toArray, List.map_cons, List.map_nil]); first | done | rfl | (simp only [List.length_drop, List.length_take]; rfl)) ?_; (with_reducible refine (pack_Reader_Text.calls k g145 t143 t144 t146 t147 t148 w _ ?side1 ?side2 A3.out).mono ?_); (case side1 => repeat (first | (with_reducible first | exact HI145.out | apply IsS88.alloc | apply IsS88.drewN | apply IsS88.drew | apply IsS88.set_0 | apply IsS88.set_1 | refine IsS88.far ?_ NB145_142.out _) | exact HI145.out)); (case side2 => repeat (first | (with_reducible first | exact HB.out | apply below_alloc | apply pw_below_drewN | apply below_drew1 | refine below_set ?_ (IsS88.ge HI145.out) | refine below_set ?_ GE142.out) | exact HB.out)); rintro e w66 ⟨rfl, hi, hb, hk⟩; refine ⟨_, rfl, ?_⟩; have n0_ := Aside0.mk (KeepBut.blk hk (g' := gb142) (o := .cells #[.string (⟨#[]⟩ : ByteArray), .string (⟨#[]⟩ : ByteArray)] 28 (0, 0)) (by (with_reducible repeat (first | refine blk_drewN ?_ _ | refine blk_drew ?_ | refine blk_alloc ?_ _)); exact BK142.out) NB142_145.out (by simp)); have n1_ := Aside0.mk (hb); have n2_ := Aside0.mk (hi); clear BK142; clear HB; clear HI145; have BK142 := n0_; have HB := n1_; have HI145 := n2_; clear n0_ n1_ n2_; (try clear hb); (try clear hb2); (try clear hk); (try clear hi)) | ((with_reducible refine gate_dst (N := 6) rfl ?_); refine box_event ?hg (N := 6) ?hd (cs := #[.string (⟨#[]⟩ : ByteArray), .string (⟨#[]⟩ : ByteArray)]) (t := 28) ?hr ?_; (case hd => rfl); (case hg => rfl); (case hr => first | (go_simp; done) | (go_simp; rfl)); intro gb149 hg w67 hbox hb; have n0_ := Aside0.mk (blk_below (g := gb142) (o := .cells #[.string (⟨#[]⟩ : ByteArray), .string (⟨#[]⟩ : ByteArray)] 28 (0, 0)) (by (with_reducible repeat (first | refine blk_drewN ?_ _ | refine blk_drew ?_ | refine blk_alloc ?_ _)); exact BK142.out) hb); have n1_ := Aside0.mk (IsS88.below (by repeat (first | (with_reducible first | exact HI145.out | apply IsS88.alloc | apply IsS88.drewN | apply IsS88.drew | apply IsS88.set_0 | apply IsS88.set_1 | refine IsS88.far ?_ NB145_142.out _) | exact HI145.out)) hb); have n2_ := Aside0.mk (below_step (by repeat (first | (with_reducible first | exact HB.out | apply below_alloc | apply pw_below_drewN | apply below_drew1 | refine below_set ?_ (IsS88.ge HI145.out) | refine below_set ?_ GE142.out) | exact HB.out)) hb); have n3_ := Aside0.mk (hbox); have n4_ := Aside0.mk ((by rw [hg]; exact (below_size (by repeat (first | (with_reducible first | exact HB.out | apply below_alloc | apply pw_below_drewN | apply below_drew1 | refine below_set ?_ (IsS88.ge HI145.out) | refine below_set ?_ GE142.out) | exact HB.out))) : w.heap.size ≤ gb149)); have n5_ := Aside0.mk ((by rw [hg]; exact (below_size (by repeat (first | (with_reducible first | exact HB.out | apply below_alloc | apply pw_below_drewN | apply below_drew1 | refine below_set ?_ (IsS88.ge HI145.out) | refine below_set ?_ GE142.out) | exact HB.out))) : w.heap.size ≤ gb149)); have n6_ := Aside0.mk ((by rw [hg]; exact Nat.ne_of_lt (blk_lt (g := gb142) (o := .cells #[.string (⟨#[]⟩ : ByteArray), .string (⟨#[]⟩ : ByteArray)] 28 (0, 0)) (by (with_reducible repeat (first | refine blk_drewN ?_ _ | refine blk_drew ?_ | refine blk_alloc ?_ _)); exact BK142.out)) : gb142 ≠ gb149)); have n7_ := Aside0.mk ((by rw [hg]; exact Nat.ne_of_gt (blk_lt (g := gb142) (o := .cells #[.string (⟨#[]⟩ : ByteArray), .string (⟨#[]⟩ : ByteArray)] 28 (0, 0)) (by (with_reducible repeat (first | refine blk_drewN ?_ _ | refine blk_drew ?_ | refine blk_alloc ?_ _)); exact BK142.out)) : gb149 ≠ gb142)); have n8_ := Aside0.mk ((by rw [hg]; exact Nat.ne_of_lt (IsS88.lt (show IsS88 w _ g145 t147 t148 from by repeat (first | (with_reducible first | exact HI145.out | apply IsS88.alloc | apply IsS88.drewN | apply IsS88.drew | apply IsS88.set_0 | apply IsS88.set_1 | refine IsS88.far ?_ NB145_142.out _) | exact HI145.out))) : g145 ≠ gb149)); have n9_ := Aside0.mk ((by rw [hg]; exact Nat.ne_of_gt (IsS88.lt (show IsS88 w _ g145 t147 t148 from by repeat (first | (with_reducible first | exact HI145.out | apply IsS88.alloc | apply IsS88.drewN | apply IsS88.drew | apply IsS88.set_0 | apply IsS88.set_1 | refine IsS88.far ?_ NB145_142.out _) | exact HI145.out))) : gb149 ≠ g145)); clear BK142; clear HI145; clear HB; have BK142 := n0_; have HI145 := n1_; have HB := n2_; have BK149 := n3_; have GW149 := n4_; have GE149 := n5_; have NB142_149 := n6_; have NB149_142 := n7_; have NB145_149 := n8_; have NB149_145 := n9_; clear n0_ n1_ n2_ n3_ n4_ n5_ n6_ n7_ n8_ n9_; clear hb hbox hg; have hnb68 := NB149_142.out; have hnc68 := NB142_149.out; have hnb69 := NB149_145.out; have hnc69 := NB145_149.out; have hcz70_0 : w67.cell? ⟨gb149, 0, none⟩ = some (.string (⟨#[]⟩ : ByteArray)) := (blk_cell BK149.out 0).trans rfl; have hcz70_1 : w67.cell? ⟨gb149, 1, none⟩ = some (.string (⟨#[]⟩ : ByteArray)) := (blk_cell BK149.out 1).trans rfl; have hfz70_0 := blk_frozen BK149.out 0; have hfz70_1 := blk_frozen BK149.out 1) | ((with_reducible refine gate_callee (f := 36) rfl ?_); refine goesL_ (some 16) rfl rfl Tryd.func36 (by kernel_rfl) rfl #[.pointer (some ⟨g145, 0, none⟩)] rfl (by (try simp only [List.map_toArray, List.map_cons, List.map_nil]); first | done | rfl | (simp only [List.length_drop, List.length_take]; rfl)) ?_; (with_reducible refine (pack_Reader_Text.calls k g145 t147 t148 t150 t151 t152 w _ ?side1 ?side2 A4.out).mono ?_); (case side1 => repeat (first | (with_reducible first | exact HI145.out | apply IsS88.alloc | apply IsS88.drewN | apply IsS88.drew | apply IsS88.set_0 | apply IsS88.set_1 | refine IsS88.far ?_ NB145_142.out _ | refine IsS88.far ?_ NB145_149.out _) | exact HI145.out)); (case side2 => repeat (first | (with_reducible first | exact HB.out | apply below_alloc | apply pw_below_drewN | apply below_drew1 | refine below_set ?_ (IsS88.ge HI145.out) | refine below_set ?_ GE142.out | refine below_set ?_ GE149.out) | exact HB.out)); rintro e w71 ⟨rfl, hi, hb, hk⟩; refine ⟨_, rfl, ?_⟩; have n0_ := Aside0.mk (KeepBut.blk hk (g' := gb142) (o := .cells #[.string (⟨#[]⟩ : ByteArray), .string (⟨#[]⟩ : ByteArray)] 28 (0, 0)) (by (with_reducible repeat (first | refine blk_drewN ?_ _ | refine blk_drew ?_ | refine blk_alloc ?_ _)); refine blk_far ?_ NB142_149.out _; (with_reducible repeat (first | refine blk_drewN ?_ _ | refine blk_drew ?_ | refine blk_alloc ?_ _)); refine blk_far ?_ NB142_149.out _; (with_reducible repeat (first | refine blk_drewN ?_ _ | refine blk_drew ?_ | refine blk_alloc ?_ _)); exact BK142.out) NB142_145.out (by simp)); have n1_ := Aside0.mk (KeepBut.blk hk (g' := gb149) (o := .cells #[.string t146, .string (⟨#[]⟩ : ByteArray)] 28 (0, 0)) (by (with_reducible repeat (first | refine blk_drewN ?_ _ | refine blk_drew ?_ | refine blk_alloc ?_ _)); refine blk_put (cs := #[.string t146, .string (⟨#[]⟩ : ByteArray)]) ?_ 1 _ rfl; (with_reducible repeat (first | refine blk_drewN ?_ _ | refine blk_drew ?_ | refine blk_alloc ?_ _)); refine blk_put (cs := #[.string (⟨#[]⟩ : ByteArray), .string (⟨#[]⟩ : ByteArray)]) ?_ 0 _ rfl; (with_reducible repeat (first | refine blk_drewN ?_ _ | refine blk_drew ?_ | refine blk_alloc ?_ _)); exact BK149.out) NB149_145.out (by simp)); have n2_ := Aside0.mk (hb); have n3_ := Aside0.mk (hi); clear BK142; clear BK149; clear HB; clear HI145; have BK142 := n0_; have BK149 := n1_; have HB := n2_; have HI145 := n3_; clear n0_ n1_ n2_ n3_; (try clear hb); (try clear hb2); (try clear hk); (try clear hi); have hcz72_0 : w71.cell? ⟨gb149, 0, none⟩ = some (.string t146) := (blk_cell BK149.out 0).trans rfl; have hcz72_1 : w71.cell? ⟨gb149, 1, none⟩ = some (.string (⟨#[]⟩ : ByteArray)) := (blk_cell BK149.out 1).trans rfl; have hfz72_0 := blk_frozen BK149.out 0; have hfz72_1 := blk_frozen BK149.out 1) | ((with_reducible refine gate_callee (f := 37) rfl ?_); refine goesL_ (some 19) rfl rfl Tryd.func37 (by kernel_rfl) rfl #[.pointer (some ⟨g145, 0, none⟩)] rfl (by (try simp only [List.map_toArray, List.map_cons, List.map_nil]); first | done | rfl | (simp only [List.length_drop, List.length_take]; rfl)) ?_; (with_reducible refine (pack_Reader_Rest.calls g145 t151 t152 t153 t154 t155 w _ ?side1 ?side2 A5.out).mono ?_); (case side1 => repeat (first | (with_reducible first | exact HI145.out | apply IsS88.alloc | apply IsS88.drewN | apply IsS88.drew | apply IsS88.set_0 | apply IsS88.set_1 | refine IsS88.far ?_ NB145_142.out _ | refine IsS88.far ?_ NB145_149.out _) | exact HI145.out)); (case side2 => repeat (first | (with_reducible first | exact HB.out | apply below_alloc | apply pw_below_drewN | apply below_drew1 | refine below_set ?_ (IsS88.ge HI145.out) | refine below_set ?_ GE142.out | refine below_set ?_ GE149.out) | exact HB.out)); rintro e w73 ⟨rfl, hi, hb, hk⟩; refine ⟨_, rfl, ?_⟩; have n0_ := Aside0.mk (KeepBut.blk hk (g' := gb142) (o := .cells #[.string (⟨#[]⟩ : ByteArray), .string (⟨#[]⟩ : ByteArray)] 28 (0, 0)) (by (with_reducible repeat (first | refine blk_drewN ?_ _ | refine blk_drew ?_ | refine blk_alloc ?_ _)); refine blk_far ?_ NB142_149.out _; (with_reducible repeat (first | refine blk_drewN ?_ _ | refine blk_drew ?_ | refine blk_alloc ?_ _)); exact BK142.out) NB142_145.out (by simp)); have n1_ := Aside0.mk (KeepBut.blk hk (g' := gb149) (o := .cells #[.string t146, .string t150] 28 (0, 0)) (by (with_reducible repeat (first | refine blk_drewN ?_ _ | refine blk_drew ?_ | refine blk_alloc ?_ _)); refine blk_put (cs := #[.string t146, .string (⟨#[]⟩ : ByteArray)]) ?_ 1 _ rfl; (with_reducible repeat (first | refine blk_drewN ?_ _ | refine blk_drew ?_ | refine blk_alloc ?_ _)); exact BK149.out) NB149_145.out (by simp)); have n2_ := Aside0.mk (hb); have n3_ := Aside0.mk (hi); clear BK142; clear BK149; clear HB; clear HI145; have BK142 := n0_; have BK149 := n1_; have HB := n2_; have HI145 := n3_; clear n0_ n1_ n2_ n3_; (try clear hb); (try clear hb2); (try clear hk); (try clear hi)) | ((with_reducible refine gate_callee (f := 38) rfl ?_); refine goesL_ (some 21) rfl rfl Tryd.func38 (by kernel_rfl) rfl #[.pointer (some ⟨g145, 0, none⟩)] rfl (by (try simp only [List.map_toArray, List.map_cons, List.map_nil]); first | done | rfl | (simp only [List.length_drop, List.length_take]; rfl)) ?_; (with_reducible refine (pack_Reader_End.calls g145 t154 t155 t156 t157 t158 w _ ?side1 ?side2 A6.out).mono ?_); (case side1 => repeat (first | (with_reducible first | exact HI145.out | apply IsS88.alloc | apply IsS88.drewN | apply IsS88.drew | apply IsS88.set_0 | apply IsS88.set_1 | refine IsS88.far ?_ NB145_142.out _ | refine IsS88.far ?_ NB145_149.out _) | exact HI145.out)); (case side2 => repeat (first | (with_reducible first | exact HB.out | apply below_alloc | apply pw_below_drewN | apply below_drew1 | refine below_set ?_ (IsS88.ge HI145.out) | refine below_set ?_ GE142.out | refine below_set ?_ GE149.out) | exact HB.out)); rintro e w74 ⟨rfl, hi, hb, hk⟩; refine ⟨_, rfl, ?_⟩; have n0_ := Aside0.mk (KeepBut.blk hk (g' := gb142) (o := .cells #[.string (⟨#[]⟩ : ByteArray), .string (⟨#[]⟩ : ByteArray)] 28 (0, 0)) (by (with_reducible repeat (first | refine blk_drewN ?_ _ | refine blk_drew ?_ | refine blk_alloc ?_ _)); exact BK142.out) NB142_145.out (by simp)); have n1_ := Aside0.mk (KeepBut.blk hk (g' := gb149) (o := .cells #[.string t146, .string t150] 28 (0, 0)) (by (with_reducible repeat (first | refine blk_drewN ?_ _ | refine blk_drew ?_ | refine blk_alloc ?_ _)); exact BK149.out) NB149_145.out (by simp)); have n2_ := Aside0.mk (hb); have n3_ := Aside0.mk (hi); clear BK142; clear BK149; clear HB; clear HI145; have BK142 := n0_; have BK149 := n1_; have HB := n2_; have HI145 := n3_; clear n0_ n1_ n2_ n3_; (try clear hb); (try clear hb2); (try clear hk); (try clear hi)))
            have n0_ := Aside0.mk (blk_drew BK142.out)
            have n1_ := Aside0.mk (blk_drew BK149.out)
            have n2_ := Aside0.mk (IsS88.drew HI145.out)
            have n3_ := Aside0.mk (below_drew1 HB.out)
            clear BK142
            clear BK149
            clear HI145
            clear HB
            have BK142 := n0_
            have BK149 := n1_
            have HI145 := n2_
            have HB := n3_
            clear n0_ n1_ n2_ n3_
            refine start_ (n := 6) (S := fun w' => w'.cell? ⟨gb149, 0, none⟩ = some (.string t146) ∧ w'.cell? ⟨gb149, 1, none⟩ = some (.string t150)) (ds := []) #[false, false, false, false, false, false] (by kernel_rfl) rfl rfl ⟨(blk_cell BK149.out 0).trans rfl, (blk_cell BK149.out 1).trans rfl⟩ (fun hHeld => ?_)
            generalize w74.drew = w75 at BK142 BK149 HI145 HB hHeld ⊢
            refine pure_ (i := 0) (N := some 30) (v := ?_) (a' := ?_) #[true, false, false, false, false, false] rfl rfl (by kernel_rfl) (fun _ _ _ h => h) (Or.inl ⟨by rfl, ?_⟩) ?_ ?_
            rotate_left
            · intro w'
              go_simp
              with_reducible rfl
            rotate_left
            · simp only [Act.put, List.setIfInBounds_toArray, List.set_cons_zero, List.set_cons_succ, i64_w, i32_w]
              rfl
            refine pure_ (i := 1) (N := some 31) (v := ?_) (a' := ?_) #[true, true, false, false, false, false] rfl rfl (by kernel_rfl) (fun _ _ _ h => h) (Or.inl ⟨by rfl, ?_⟩) ?_ ?_
            rotate_left
            · intro w'
              go_simp
              with_reducible rfl
            rotate_left
            · simp only [Act.put, List.setIfInBounds_toArray, List.set_cons_zero, List.set_cons_succ, i64_w, i32_w]
              rfl
            refine pure_ (i := 2) (N := some 32) (v := ?_) (a' := ?_) #[true, true, true, false, false, false] rfl rfl (by kernel_rfl) (fun _ _ _ h => h) (Or.inl ⟨by rfl, ?_⟩) ?_ ?_
            rotate_left
            · intro w'
              go_simp
              with_reducible rfl
            rotate_left
            · simp only [Act.put, List.setIfInBounds_toArray, List.set_cons_zero, List.set_cons_succ, i64_w, i32_w]
              rfl
            refine take_ (i := 3) (N := some 33) (v := ?_) (a' := ?_) #[true, true, true, true, false, false] rfl rfl (by kernel_rfl) (fun _ _ _ h => h) (Or.inl ⟨by rfl, ?_⟩) hHeld ?_ ?_
            rotate_left
            · rintro w' ⟨s0, s1⟩
              go_simp
              with_reducible rfl
            rotate_left
            · simp only [Act.put, List.setIfInBounds_toArray, List.set_cons_zero, List.set_cons_succ, i64_w, i32_w]
              rfl
            refine one_ (i := 4) (N := some 34) #[true, true, true, true, true, false] rfl rfl (by kernel_rfl) (by decide) (fun K hK => ?_)
            refine goes_ Tryd.func29 (by kernel_rfl) rfl #[.string t150] (by rfl) rfl rfl (by (try simp only [List.map_toArray, List.map_cons, List.map_nil]); first | done | rfl | (simp only [List.length_drop, List.length_take]; rfl)) ?_
            with_reducible refine (digest_Sum.calls t150 t159 _ A24.out).mono ?_
            rintro e w76 ⟨rfl, hb⟩
            refine ⟨_, rfl, ?_⟩
            have n0_ := Aside0.mk (blk_below (g := gb142) (o := .cells #[.string (⟨#[]⟩ : ByteArray), .string (⟨#[]⟩ : ByteArray)] 28 (0, 0)) (by (with_reducible repeat (first | refine blk_drewN ?_ _ | refine blk_drew ?_ | refine blk_alloc ?_ _)); exact BK142.out) hb)
            have n1_ := Aside0.mk (IsS88.below (by repeat (first | (with_reducible first | exact HI145.out | apply IsS88.alloc | apply IsS88.drewN | apply IsS88.drew | apply IsS88.set_0 | apply IsS88.set_1 | refine IsS88.far ?_ NB145_142.out _ | refine IsS88.far ?_ NB145_149.out _) | exact HI145.out)) hb)
            have n2_ := Aside0.mk (blk_below (g := gb149) (o := .cells #[.string t146, .string t150] 28 (0, 0)) (by (with_reducible repeat (first | refine blk_drewN ?_ _ | refine blk_drew ?_ | refine blk_alloc ?_ _)); exact BK149.out) hb)
            have n3_ := Aside0.mk (below_step (by repeat (first | (with_reducible first | exact HB.out | apply below_alloc | apply pw_below_drewN | apply below_drew1 | refine below_set ?_ (IsS88.ge HI145.out) | refine below_set ?_ GE142.out | refine below_set ?_ GE149.out) | exact HB.out)) hb)
            clear BK142
            clear HI145
            clear BK149
            clear HB
            have BK142 := n0_
            have HI145 := n1_
            have BK149 := n2_
            have HB := n3_
            clear n0_ n1_ n2_ n3_
            (try clear hb)
            (try clear hb2)
            (try clear hk)
            (try clear hi)
            refine hK.out _ _ ⟨(blk_cell BK149.out 0).trans rfl, (blk_cell BK149.out 1).trans rfl⟩ (fun hHeld => ?_)
            clear hK K
            refine norm_ (a' := ?_) ?_ ?_
            rotate_left
            · show Act.put _ (some 34) _ = _
              simp only [Act.put, List.setIfInBounds_toArray, List.set_cons_zero, List.set_cons_succ, i64_w, i32_w]
              rfl
            refine pure_ (i := 5) (N := some 35) (v := ?_) (a' := ?_) #[true, true, true, true, true, true] rfl rfl (by kernel_rfl) (fun _ _ _ h => h) (Or.inl ⟨by rfl, ?_⟩) ?_ ?_
            rotate_left
            · intro w'
              go_simp
              with_reducible rfl
            rotate_left
            · simp only [Act.put, List.setIfInBounds_toArray, List.set_cons_zero, List.set_cons_succ, i64_w, i32_w]
              rfl
            refine done_ (by kernel_rfl) ?_
            have hnb77 := NB142_145.out
            have hnc77 := NB145_142.out
            have hcz78_0 : w76.cell? ⟨gb142, 0, none⟩ = some (.string (⟨#[]⟩ : ByteArray)) := (blk_cell BK142.out 0).trans rfl
            have hcz78_1 : w76.cell? ⟨gb142, 1, none⟩ = some (.string (⟨#[]⟩ : ByteArray)) := (blk_cell BK142.out 1).trans rfl
            have hfz78_0 := blk_frozen BK142.out 0
            have hfz78_1 := blk_frozen BK142.out 1
            try go_wp2
            refine bodyPost_ret (results_ctt rfl _ _ gb142 28 #[.string (⟨#[]⟩ : ByteArray), .string (⟨#[]⟩ : ByteArray)] (0, 0) _ rfl (by (with_reducible repeat (first | refine blk_drewN ?_ _ | refine blk_drew ?_ | refine blk_alloc ?_ _)); refine blk_put (cs := #[.string (⟨#[]⟩ : ByteArray), .string (⟨#[]⟩ : ByteArray)]) ?_ 1 _ rfl; (with_reducible repeat (first | refine blk_drewN ?_ _ | refine blk_drew ?_ | refine blk_alloc ?_ _)); refine blk_put (cs := #[.string (⟨#[]⟩ : ByteArray), .string (⟨#[]⟩ : ByteArray)]) ?_ 0 _ rfl; (with_reducible repeat (first | refine blk_drewN ?_ _ | refine blk_drew ?_ | refine blk_alloc ?_ _)); exact BK142.out) Tryd.underlying28 rfl (by kernel_rfl)) rfl ?_
            exact ⟨by first | rfl | (simp [errW_none, errW_some] <;> rfl) | (simp [*, errW_none, errW_some] <;> rfl), by repeat (first | (with_reducible first | exact HB.out | apply below_alloc | apply pw_below_drewN | apply below_drew1 | refine below_set ?_ (IsS88.ge HI145.out) | refine below_set ?_ GE142.out | refine below_set ?_ GE149.out) | exact HB.out)⟩
        · rw [if_neg c23] at H
          exact absurd H (by simp)
      · rw [if_neg c22] at H
        exact absurd H (by simp)
  · rw [if_neg c7] at H
    have c7b0 : (t156 == 0) = false := beq_eq_false_iff_ne.mpr c7
    have c7b1 : (t156 != 0) = true := bne_iff_ne.mpr c7
    simp only [Option.some.injEq, Prod.mk.injEq] at H
    obtain ⟨rfl, rfl, rfl, rfl⟩ := H
    go_enter Tryd.func15, Tryd.ntmps15
    go_wp2_with (first | ((with_reducible refine gate_dst (N := 2) rfl ?_); refine box_event ?hg (N := 2) ?hd (cs := #[.string (⟨#[]⟩ : ByteArray), .string (⟨#[]⟩ : ByteArray)]) (t := 28) ?hr ?_; (case hd => rfl); (case hg => rfl); (case hr => first | (go_simp; done) | (go_simp; rfl)); intro gb142 hg w79 hbox hb; have n0_ := Aside0.mk (below_step (by repeat (first | (with_reducible first | exact HB.out | apply below_alloc | apply pw_below_drewN | apply below_drew1) | exact HB.out)) hb); have n1_ := Aside0.mk (hbox); have n2_ := Aside0.mk ((by rw [hg]; exact (below_size (by repeat (first | (with_reducible first | exact HB.out | apply below_alloc | apply pw_below_drewN | apply below_drew1) | exact HB.out))) : w.heap.size ≤ gb142)); have n3_ := Aside0.mk ((by rw [hg]; exact (below_size (by repeat (first | (with_reducible first | exact HB.out | apply below_alloc | apply pw_below_drewN | apply below_drew1) | exact HB.out))) : w.heap.size ≤ gb142)); clear HB; have HB := n0_; have BK142 := n1_; have GW142 := n2_; have GE142 := n3_; clear n0_ n1_ n2_ n3_; clear hb hbox hg) | ((with_reducible refine gate_callee (f := 35) rfl ?_); refine goesL_ (some 11) rfl rfl Tryd.func35 (by kernel_rfl) rfl #[.string a0] rfl (by (try simp only [List.map_toArray, List.map_cons, List.map_nil]); first | done | rfl | (simp only [List.length_drop, List.length_take]; rfl)) ?_; (with_reducible refine (pack_Read.calls a0 t143 t144 w _ ?side1 A2.out).mono ?_); (case side1 => repeat (first | (with_reducible first | exact HB.out | apply below_alloc | apply pw_below_drewN | apply below_drew1 | refine below_set ?_ GE142.out) | exact HB.out)); rintro e w80 ⟨g145, rfl, hi, hb, hb2⟩; refine ⟨_, rfl, ?_⟩; have n0_ := Aside0.mk (blk_below (g := gb142) (o := .cells #[.string (⟨#[]⟩ : ByteArray), .string (⟨#[]⟩ : ByteArray)] 28 (0, 0)) (by (with_reducible repeat (first | refine blk_drewN ?_ _ | refine blk_drew ?_ | refine blk_alloc ?_ _)); exact BK142.out) hb2); have n1_ := Aside0.mk (hb); have n2_ := Aside0.mk (hi); have n3_ := Aside0.mk (IsS88.ne_blk hi (blk_below (g := gb142) (o := .cells #[.string (⟨#[]⟩ : ByteArray), .string (⟨#[]⟩ : ByteArray)] 28 (0, 0)) (by (with_reducible repeat (first | refine blk_drewN ?_ _ | refine blk_drew ?_ | refine blk_alloc ?_ _)); exact BK142.out) hb2) (by decide)); have n4_ := Aside0.mk (Ne.symm (IsS88.ne_blk hi (blk_below (g := gb142) (o := .cells #[.string (⟨#[]⟩ : ByteArray), .string (⟨#[]⟩ : ByteArray)] 28 (0, 0)) (by (with_reducible repeat (first | refine blk_drewN ?_ _ | refine blk_drew ?_ | refine blk_alloc ?_ _)); exact BK142.out) hb2) (by decide))); clear BK142; clear HB; have BK142 := n0_; have HB := n1_; have HI145 := n2_; have NB145_142 := n3_; have NB142_145 := n4_; clear n0_ n1_ n2_ n3_ n4_; (try clear hb); (try clear hb2); (try clear hk); (try clear hi)) | ((with_reducible refine gate_callee (f := 36) rfl ?_); refine goesL_ (some 13) rfl rfl Tryd.func36 (by kernel_rfl) rfl #[.pointer (some ⟨g145, 0, none⟩)] rfl (by (try simp only [List.map_toArray, List.map_cons, List.map_nil]); first | done | rfl | (simp only [List.length_drop, List.length_take]; rfl)) ?_; (with_reducible refine (pack_Reader_Text.calls k g145 t143 t144 t146 t147 t148 w _ ?side1 ?side2 A3.out).mono ?_); (case side1 => repeat (first | (with_reducible first | exact HI145.out | apply IsS88.alloc | apply IsS88.drewN | apply IsS88.drew | apply IsS88.set_0 | apply IsS88.set_1 | refine IsS88.far ?_ NB145_142.out _) | exact HI145.out)); (case side2 => repeat (first | (with_reducible first | exact HB.out | apply below_alloc | apply pw_below_drewN | apply below_drew1 | refine below_set ?_ (IsS88.ge HI145.out) | refine below_set ?_ GE142.out) | exact HB.out)); rintro e w81 ⟨rfl, hi, hb, hk⟩; refine ⟨_, rfl, ?_⟩; have n0_ := Aside0.mk (KeepBut.blk hk (g' := gb142) (o := .cells #[.string (⟨#[]⟩ : ByteArray), .string (⟨#[]⟩ : ByteArray)] 28 (0, 0)) (by (with_reducible repeat (first | refine blk_drewN ?_ _ | refine blk_drew ?_ | refine blk_alloc ?_ _)); exact BK142.out) NB142_145.out (by simp)); have n1_ := Aside0.mk (hb); have n2_ := Aside0.mk (hi); clear BK142; clear HB; clear HI145; have BK142 := n0_; have HB := n1_; have HI145 := n2_; clear n0_ n1_ n2_; (try clear hb); (try clear hb2); (try clear hk); (try clear hi)) | ((with_reducible refine gate_dst (N := 6) rfl ?_); refine box_event ?hg (N := 6) ?hd (cs := #[.string (⟨#[]⟩ : ByteArray), .string (⟨#[]⟩ : ByteArray)]) (t := 28) ?hr ?_; (case hd => rfl); (case hg => rfl); (case hr => first | (go_simp; done) | (go_simp; rfl)); intro gb149 hg w82 hbox hb; have n0_ := Aside0.mk (blk_below (g := gb142) (o := .cells #[.string (⟨#[]⟩ : ByteArray), .string (⟨#[]⟩ : ByteArray)] 28 (0, 0)) (by (with_reducible repeat (first | refine blk_drewN ?_ _ | refine blk_drew ?_ | refine blk_alloc ?_ _)); exact BK142.out) hb); have n1_ := Aside0.mk (IsS88.below (by repeat (first | (with_reducible first | exact HI145.out | apply IsS88.alloc | apply IsS88.drewN | apply IsS88.drew | apply IsS88.set_0 | apply IsS88.set_1 | refine IsS88.far ?_ NB145_142.out _) | exact HI145.out)) hb); have n2_ := Aside0.mk (below_step (by repeat (first | (with_reducible first | exact HB.out | apply below_alloc | apply pw_below_drewN | apply below_drew1 | refine below_set ?_ (IsS88.ge HI145.out) | refine below_set ?_ GE142.out) | exact HB.out)) hb); have n3_ := Aside0.mk (hbox); have n4_ := Aside0.mk ((by rw [hg]; exact (below_size (by repeat (first | (with_reducible first | exact HB.out | apply below_alloc | apply pw_below_drewN | apply below_drew1 | refine below_set ?_ (IsS88.ge HI145.out) | refine below_set ?_ GE142.out) | exact HB.out))) : w.heap.size ≤ gb149)); have n5_ := Aside0.mk ((by rw [hg]; exact (below_size (by repeat (first | (with_reducible first | exact HB.out | apply below_alloc | apply pw_below_drewN | apply below_drew1 | refine below_set ?_ (IsS88.ge HI145.out) | refine below_set ?_ GE142.out) | exact HB.out))) : w.heap.size ≤ gb149)); have n6_ := Aside0.mk ((by rw [hg]; exact Nat.ne_of_lt (blk_lt (g := gb142) (o := .cells #[.string (⟨#[]⟩ : ByteArray), .string (⟨#[]⟩ : ByteArray)] 28 (0, 0)) (by (with_reducible repeat (first | refine blk_drewN ?_ _ | refine blk_drew ?_ | refine blk_alloc ?_ _)); exact BK142.out)) : gb142 ≠ gb149)); have n7_ := Aside0.mk ((by rw [hg]; exact Nat.ne_of_gt (blk_lt (g := gb142) (o := .cells #[.string (⟨#[]⟩ : ByteArray), .string (⟨#[]⟩ : ByteArray)] 28 (0, 0)) (by (with_reducible repeat (first | refine blk_drewN ?_ _ | refine blk_drew ?_ | refine blk_alloc ?_ _)); exact BK142.out)) : gb149 ≠ gb142)); have n8_ := Aside0.mk ((by rw [hg]; exact Nat.ne_of_lt (IsS88.lt (show IsS88 w _ g145 t147 t148 from by repeat (first | (with_reducible first | exact HI145.out | apply IsS88.alloc | apply IsS88.drewN | apply IsS88.drew | apply IsS88.set_0 | apply IsS88.set_1 | refine IsS88.far ?_ NB145_142.out _) | exact HI145.out))) : g145 ≠ gb149)); have n9_ := Aside0.mk ((by rw [hg]; exact Nat.ne_of_gt (IsS88.lt (show IsS88 w _ g145 t147 t148 from by repeat (first | (with_reducible first | exact HI145.out | apply IsS88.alloc | apply IsS88.drewN | apply IsS88.drew | apply IsS88.set_0 | apply IsS88.set_1 | refine IsS88.far ?_ NB145_142.out _) | exact HI145.out))) : gb149 ≠ g145)); clear BK142; clear HI145; clear HB; have BK142 := n0_; have HI145 := n1_; have HB := n2_; have BK149 := n3_; have GW149 := n4_; have GE149 := n5_; have NB142_149 := n6_; have NB149_142 := n7_; have NB145_149 := n8_; have NB149_145 := n9_; clear n0_ n1_ n2_ n3_ n4_ n5_ n6_ n7_ n8_ n9_; clear hb hbox hg; have hnb83 := NB149_142.out; have hnc83 := NB142_149.out; have hnb84 := NB149_145.out; have hnc84 := NB145_149.out; have hcz85_0 : w82.cell? ⟨gb149, 0, none⟩ = some (.string (⟨#[]⟩ : ByteArray)) := (blk_cell BK149.out 0).trans rfl; have hcz85_1 : w82.cell? ⟨gb149, 1, none⟩ = some (.string (⟨#[]⟩ : ByteArray)) := (blk_cell BK149.out 1).trans rfl; have hfz85_0 := blk_frozen BK149.out 0; have hfz85_1 := blk_frozen BK149.out 1) | ((with_reducible refine gate_callee (f := 36) rfl ?_); refine goesL_ (some 16) rfl rfl Tryd.func36 (by kernel_rfl) rfl #[.pointer (some ⟨g145, 0, none⟩)] rfl (by (try simp only [List.map_toArray, List.map_cons, List.map_nil]); first | done | rfl | (simp only [List.length_drop, List.length_take]; rfl)) ?_; (with_reducible refine (pack_Reader_Text.calls k g145 t147 t148 t150 t151 t152 w _ ?side1 ?side2 A4.out).mono ?_); (case side1 => repeat (first | (with_reducible first | exact HI145.out | apply IsS88.alloc | apply IsS88.drewN | apply IsS88.drew | apply IsS88.set_0 | apply IsS88.set_1 | refine IsS88.far ?_ NB145_142.out _ | refine IsS88.far ?_ NB145_149.out _) | exact HI145.out)); (case side2 => repeat (first | (with_reducible first | exact HB.out | apply below_alloc | apply pw_below_drewN | apply below_drew1 | refine below_set ?_ (IsS88.ge HI145.out) | refine below_set ?_ GE142.out | refine below_set ?_ GE149.out) | exact HB.out)); rintro e w86 ⟨rfl, hi, hb, hk⟩; refine ⟨_, rfl, ?_⟩; have n0_ := Aside0.mk (KeepBut.blk hk (g' := gb142) (o := .cells #[.string (⟨#[]⟩ : ByteArray), .string (⟨#[]⟩ : ByteArray)] 28 (0, 0)) (by (with_reducible repeat (first | refine blk_drewN ?_ _ | refine blk_drew ?_ | refine blk_alloc ?_ _)); refine blk_far ?_ NB142_149.out _; (with_reducible repeat (first | refine blk_drewN ?_ _ | refine blk_drew ?_ | refine blk_alloc ?_ _)); refine blk_far ?_ NB142_149.out _; (with_reducible repeat (first | refine blk_drewN ?_ _ | refine blk_drew ?_ | refine blk_alloc ?_ _)); exact BK142.out) NB142_145.out (by simp)); have n1_ := Aside0.mk (KeepBut.blk hk (g' := gb149) (o := .cells #[.string t146, .string (⟨#[]⟩ : ByteArray)] 28 (0, 0)) (by (with_reducible repeat (first | refine blk_drewN ?_ _ | refine blk_drew ?_ | refine blk_alloc ?_ _)); refine blk_put (cs := #[.string t146, .string (⟨#[]⟩ : ByteArray)]) ?_ 1 _ rfl; (with_reducible repeat (first | refine blk_drewN ?_ _ | refine blk_drew ?_ | refine blk_alloc ?_ _)); refine blk_put (cs := #[.string (⟨#[]⟩ : ByteArray), .string (⟨#[]⟩ : ByteArray)]) ?_ 0 _ rfl; (with_reducible repeat (first | refine blk_drewN ?_ _ | refine blk_drew ?_ | refine blk_alloc ?_ _)); exact BK149.out) NB149_145.out (by simp)); have n2_ := Aside0.mk (hb); have n3_ := Aside0.mk (hi); clear BK142; clear BK149; clear HB; clear HI145; have BK142 := n0_; have BK149 := n1_; have HB := n2_; have HI145 := n3_; clear n0_ n1_ n2_ n3_; (try clear hb); (try clear hb2); (try clear hk); (try clear hi); have hcz87_0 : w86.cell? ⟨gb149, 0, none⟩ = some (.string t146) := (blk_cell BK149.out 0).trans rfl; have hcz87_1 : w86.cell? ⟨gb149, 1, none⟩ = some (.string (⟨#[]⟩ : ByteArray)) := (blk_cell BK149.out 1).trans rfl; have hfz87_0 := blk_frozen BK149.out 0; have hfz87_1 := blk_frozen BK149.out 1) | ((with_reducible refine gate_callee (f := 37) rfl ?_); refine goesL_ (some 19) rfl rfl Tryd.func37 (by kernel_rfl) rfl #[.pointer (some ⟨g145, 0, none⟩)] rfl (by (try simp only [List.map_toArray, List.map_cons, List.map_nil]); first | done | rfl | (simp only [List.length_drop, List.length_take]; rfl)) ?_; (with_reducible refine (pack_Reader_Rest.calls g145 t151 t152 t153 t154 t155 w _ ?side1 ?side2 A5.out).mono ?_); (case side1 => repeat (first | (with_reducible first | exact HI145.out | apply IsS88.alloc | apply IsS88.drewN | apply IsS88.drew | apply IsS88.set_0 | apply IsS88.set_1 | refine IsS88.far ?_ NB145_142.out _ | refine IsS88.far ?_ NB145_149.out _) | exact HI145.out)); (case side2 => repeat (first | (with_reducible first | exact HB.out | apply below_alloc | apply pw_below_drewN | apply below_drew1 | refine below_set ?_ (IsS88.ge HI145.out) | refine below_set ?_ GE142.out | refine below_set ?_ GE149.out) | exact HB.out)); rintro e w88 ⟨rfl, hi, hb, hk⟩; refine ⟨_, rfl, ?_⟩; have n0_ := Aside0.mk (KeepBut.blk hk (g' := gb142) (o := .cells #[.string (⟨#[]⟩ : ByteArray), .string (⟨#[]⟩ : ByteArray)] 28 (0, 0)) (by (with_reducible repeat (first | refine blk_drewN ?_ _ | refine blk_drew ?_ | refine blk_alloc ?_ _)); refine blk_far ?_ NB142_149.out _; (with_reducible repeat (first | refine blk_drewN ?_ _ | refine blk_drew ?_ | refine blk_alloc ?_ _)); exact BK142.out) NB142_145.out (by simp)); have n1_ := Aside0.mk (KeepBut.blk hk (g' := gb149) (o := .cells #[.string t146, .string t150] 28 (0, 0)) (by (with_reducible repeat (first | refine blk_drewN ?_ _ | refine blk_drew ?_ | refine blk_alloc ?_ _)); refine blk_put (cs := #[.string t146, .string (⟨#[]⟩ : ByteArray)]) ?_ 1 _ rfl; (with_reducible repeat (first | refine blk_drewN ?_ _ | refine blk_drew ?_ | refine blk_alloc ?_ _)); exact BK149.out) NB149_145.out (by simp)); have n2_ := Aside0.mk (hb); have n3_ := Aside0.mk (hi); clear BK142; clear BK149; clear HB; clear HI145; have BK142 := n0_; have BK149 := n1_; have HB := n2_; have HI145 := n3_; clear n0_ n1_ n2_ n3_; (try clear hb); (try clear hb2); (try clear hk); (try clear hi)) | ((with_reducible refine gate_callee (f := 38) rfl ?_); refine goesL_ (some 21) rfl rfl Tryd.func38 (by kernel_rfl) rfl #[.pointer (some ⟨g145, 0, none⟩)] rfl (by (try simp only [List.map_toArray, List.map_cons, List.map_nil]); first | done | rfl | (simp only [List.length_drop, List.length_take]; rfl)) ?_; (with_reducible refine (pack_Reader_End.calls g145 t154 t155 t156 t157 t158 w _ ?side1 ?side2 A6.out).mono ?_); (case side1 => repeat (first | (with_reducible first | exact HI145.out | apply IsS88.alloc | apply IsS88.drewN | apply IsS88.drew | apply IsS88.set_0 | apply IsS88.set_1 | refine IsS88.far ?_ NB145_142.out _ | refine IsS88.far ?_ NB145_149.out _) | exact HI145.out)); (case side2 => repeat (first | (with_reducible first | exact HB.out | apply below_alloc | apply pw_below_drewN | apply below_drew1 | refine below_set ?_ (IsS88.ge HI145.out) | refine below_set ?_ GE142.out | refine below_set ?_ GE149.out) | exact HB.out)); rintro e w89 ⟨rfl, hi, hb, hk⟩; refine ⟨_, rfl, ?_⟩; have n0_ := Aside0.mk (KeepBut.blk hk (g' := gb142) (o := .cells #[.string (⟨#[]⟩ : ByteArray), .string (⟨#[]⟩ : ByteArray)] 28 (0, 0)) (by (with_reducible repeat (first | refine blk_drewN ?_ _ | refine blk_drew ?_ | refine blk_alloc ?_ _)); exact BK142.out) NB142_145.out (by simp)); have n1_ := Aside0.mk (KeepBut.blk hk (g' := gb149) (o := .cells #[.string t146, .string t150] 28 (0, 0)) (by (with_reducible repeat (first | refine blk_drewN ?_ _ | refine blk_drew ?_ | refine blk_alloc ?_ _)); exact BK149.out) NB149_145.out (by simp)); have n2_ := Aside0.mk (hb); have n3_ := Aside0.mk (hi); clear BK142; clear BK149; clear HB; clear HI145; have BK142 := n0_; have BK149 := n1_; have HB := n2_; have HI145 := n3_; clear n0_ n1_ n2_ n3_; (try clear hb); (try clear hb2); (try clear hk); (try clear hi); have hnb90 := NB142_145.out; have hnc90 := NB145_142.out; have hcz91_0 : w89.cell? ⟨gb142, 0, none⟩ = some (.string (⟨#[]⟩ : ByteArray)) := (blk_cell BK142.out 0).trans rfl; have hcz91_1 : w89.cell? ⟨gb142, 1, none⟩ = some (.string (⟨#[]⟩ : ByteArray)) := (blk_cell BK142.out 1).trans rfl; have hfz91_0 := blk_frozen BK142.out 0; have hfz91_1 := blk_frozen BK142.out 1))
    refine bodyPost_ret (results_ctt rfl _ _ gb142 28 #[.string (⟨#[]⟩ : ByteArray), .string (⟨#[]⟩ : ByteArray)] (0, 0) _ rfl (by (with_reducible repeat (first | refine blk_drewN ?_ _ | refine blk_drew ?_ | refine blk_alloc ?_ _)); refine blk_put (cs := #[.string (⟨#[]⟩ : ByteArray), .string (⟨#[]⟩ : ByteArray)]) ?_ 1 _ rfl; (with_reducible repeat (first | refine blk_drewN ?_ _ | refine blk_drew ?_ | refine blk_alloc ?_ _)); refine blk_put (cs := #[.string (⟨#[]⟩ : ByteArray), .string (⟨#[]⟩ : ByteArray)]) ?_ 0 _ rfl; (with_reducible repeat (first | refine blk_drewN ?_ _ | refine blk_drew ?_ | refine blk_alloc ?_ _)); exact BK142.out) Tryd.underlying28 rfl (by kernel_rfl)) rfl ?_
    exact ⟨by first | rfl | (simp [errW_none, errW_some] <;> rfl) | (simp [*, errW_none, errW_some] <;> rfl), by repeat (first | (with_reducible first | exact HB.out | apply below_alloc | apply pw_below_drewN | apply below_drew1 | refine below_set ?_ (IsS88.ge HI145.out) | refine below_set ?_ GE142.out | refine below_set ?_ GE149.out) | exact HB.out)⟩
end Go.Proofs.YtpgfafpjfdbjmaaDoor.Q
end
section
namespace Go.Proofs.YtpgfafpjfdbjmaaDoor.Q
end Go.Proofs.YtpgfafpjfdbjmaaDoor.Q
end
