/- (digest.state).block: its walk. -/
import Derived.Test.YtaobnbmpeplefaaDigConst
namespace Go.Proofs.Ytaobnbmpeplefaa
open Go.RowKit Q Go.Proofs.YtaobnbmpeplefaaW.PrintWords Go.Proofs.YtaobnbmpeplefaaW.PrintLast Go.Proofs.YtaobnbmpeplefaaW.PrintMore
attribute [local go_sem] arr_set
/-- Block g of the world holds the numbers xs. -/
def Row (w : World) (g : Nat) (T : TypeId) (xs : List Int) : Prop := w.heap[g]? = some (.cells (arr .u32 xs) T (0, 0))
theorem Row.cell {w : World} {g : Nat} {T : TypeId} {xs : List Int} (h : Row w g T xs) (i : Nat) (hi : i < xs.length) : w.cell? ⟨g, i, none⟩ = some (.int .u32 (xs.getD i 0)) := by
  rw [Lib.cell_of_heap h, arr_get _ _ _ hi]
theorem Row.frozen {w : World} {g : Nat} {T : TypeId} {xs : List Int} (h : Row w g T xs) (i : Nat) : w.frozen? ⟨g, i, none⟩ = false := Lib.frozen_of_heap h i
theorem Row.set {w : World} {g : Nat} {T : TypeId} {xs : List Int} (h : Row w g T xs) (i : Nat) (v : Int) : Row (w.setCell ⟨g, i, none⟩ (.int .u32 v)) g T (xs.set i v) := by
  have : w.heap[g]? = _ := h
  simp [Row, World.setCell, Array.getElem?_modify, this, arr_set]
theorem Row.other {w : World} {g g' : Nat} {T : TypeId} {xs : List Int} (h : Row w g T xs) (hne : g ≠ g') (i : Nat) (v : Value) : Row (w.setCell ⟨g', i, none⟩ v) g T xs :=
  (Below.heap_setCell _ _ _ _ (fun e => hne e)).trans h
theorem Row.alloc {w : World} {g : Nat} {T : TypeId} {xs : List Int} (h : Row w g T xs) (o : Obj) : Row (w.alloc o) g T xs :=
  (Lib.alloc_old w o g (Array.getElem?_eq_some_iff.1 h).1).trans h
theorem Row.lt {w : World} {g : Nat} {T : TypeId} {xs : List Int} (h : Row w g T xs) : g < w.heap.size := (Array.getElem?_eq_some_iff.1 h).1
theorem Row.drewN {w : World} {g : Nat} {T : TypeId} {xs : List Int} (h : Row w g T xs) (n : Nat) : Row (w.drewN n) g T xs := h
theorem Row.new (w : World) (T : TypeId) (xs : List Int) : Row (w.alloc (.cells (arr .u32 xs) T)) w.heap.size T xs := heap_alloc_new w _
theorem Row.keep {w w' : World} {g : Nat} {T : TypeId} {xs : List Int} (h : Row w g T xs) (hb : Below w.heap.size w w') : Row w' g T xs :=
  (hb.block g h.lt).trans h
theorem Row.put {w : World} {g : Nat} {T : TypeId} {xs : List Int} (h : Row w g T xs) (ys : List Int) : Row (w.setRow g (arr .u32 ys)) g T ys :=
  setRow_heap w g _ _ _ _ h
theorem Row.past {w : World} {g g' : Nat} {T : TypeId} {xs : List Int} (h : Row w g T xs) (hne : g ≠ g') (c : Array Value) : Row (w.setRow g' c) g T xs :=
  (setRow_other w g' g c hne).trans h
theorem below_setRow {B : Nat} {w w1 : World} (h : Below B w w1) {g : Nat} (hg : B ≤ g) (c : Array Value) : Below B w (w1.setRow g c) :=
  h.trans ⟨rfl, rfl, rfl, by simp [World.setRow], fun k hk => setRow_other w1 g k c (by omega)⟩
theorem below2 {w w1 w2 : World} {B : Nat} (a : Below B w w1) (hB : B ≤ w1.heap.size) (b : Below w1.heap.size w1 w2) : Below B w w2 := a.trans (b.mono hB)
theorem alloc_run {P : Program} (ev : Operand → Value) (T : TypeId) {c : Array Value} (W : World) (hz : (zeroValue T).run P W = .ok (.agg c) W) {o : Oper} (ho : o.op = .alloc T) :
    (execOp ev o).run P W = .ok (.value (.pointer (some ⟨W.heap.size, 0, none⟩))) (W.alloc (.cells c T)) := by
  unfold execOp
  rw [ho]
  go_simp
theorem load_run {P : Program} (ev : Operand → Value) (T : TypeId) (x : Operand) {xs : List Int} (g n : Nat) (e : TypeId) (W : World) (h : Row W g T xs) (hu : P.underlying T = some (.array n e)) (hi : (P.info? T).map (·.size) = some xs.length) (hx : ev x = .pointer (some ⟨g, 0, none⟩)) {o : Oper} (ho : o.op = .load T x) :
    (execOp ev o).run P W = .ok (.value (.agg (arr .u32 xs))) W := by
  unfold execOp
  simp only [ho, hx, Instr.loadAt, Instr.sureAddr, Sem.run_bind, Sem.run_pure, Result.andThen_ok, run_loadVar_row W g T T _ _ _ h hu rfl (by rw [arr_size]; exact hi)]
theorem store_run {P : Program} (ev : Operand → Value) (T : TypeId) (x y : Operand) {xs ys : List Int} (g : Nat) (W : World) (h : Row W g T xs) (hi : (P.info? T).map (·.size) = some ys.length) (hl : xs.length = ys.length) (hx : ev x = .pointer (some ⟨g, 0, none⟩)) (hy : ev y = .agg (arr .u32 ys)) {o : Oper} (ho : o.op = .store T x y) :
    (execOp ev o).run P W = .ok .skip (W.setRow g (arr .u32 ys)) := by
  unfold execOp
  simp only [ho, hx, hy, Instr.storeAt, Instr.sureAddr, Sem.run_bind, Sem.run_pure, Result.andThen_ok, run_storeVar_row W g T T (arr .u32 xs) (arr .u32 ys) h (by rw [arr_size .u32 ys]; exact hi) (by rw [arr_size .u32 xs, arr_size .u32 ys]; exact hl) (arr_one _ _)]
theorem copy_shift (w : World) (T : TypeId) (gb : Nat) (a b c d e f g h : Int) (hr : Row w gb T [a, b, c, d, e, f, g, h]) :
    (Builtin.copy_ #[35, 35] 3 #[.slice (some ⟨gb, 1, none⟩) 7 7, .slice (some ⟨gb, 0, none⟩) 7 8]).run Try.prog w = .ok (.int .i64 7) (w.setRow gb (arr .u32 [a, a, b, c, d, e, f, g])) := by
  have := run_copy_row (P := Try.prog) w 35 35 3 34 gb 1 7 7 ⟨gb, 0, none⟩ 7 8 (arr .u32 [a, b, c, d, e, f, g, h]) T [.int .u32 a, .int .u32 b, .int .u32 c, .int .u32 d, .int .u32 e, .int .u32 f, .int .u32 g]
    Try.underlying35 (by kernel_rfl) hr rfl (fun j v hv => by
      have hadd : (⟨gb, 0, none⟩ : Addr).add j = ⟨gb, j, none⟩ := by unfold Addr.add; split <;> simp_all
      rw [hadd, Lib.cell_of_heap hr]
      match j, hv with
      | 0, hv => exact hv
      | 1, hv => exact hv
      | 2, hv => exact hv
      | 3, hv => exact hv
      | 4, hv => exact hv
      | 5, hv => exact hv
      | 6, hv => exact hv
      | k + 7, hv => simp at hv) (by simp [arr]) (by intro v hv; simp at hv; rcases hv with rfl | rfl | rfl | rfl | rfl | rfl | rfl <;> rfl)
  exact this
theorem blk_eq (K : List Int) (x xv : V8) (b : ByteArray) (WL : List Int) (i j : Nat) (hi : i = 64) (hW : wl b i = WL) (hj : j = 64) (hx : cv x K WL j = xv) : ad x.l xv.l 8 = blk K x b := by
  subst hi hj hW hx
  rfl
set_option maxRecDepth 100000 in
set_option maxHeartbeats 8000000 in
theorem block_calls (s0 s1 s2 s3 s4 s5 s6 s7 : Int) (b : ByteArray) (hb : b.size = 64) (R : List Int) (hres : Hid (blk KL ⟨s0, s1, s2, s3, s4, s5, s6, s7⟩ b = R)) (w : World) :
    Calls Try.prog 22 #[.agg (arr .u32 [s0, s1, s2, s3, s4, s5, s6, s7]), .string b] w fun e w' => e = .returned (.agg (arr .u32 R)) ∧ Below w.heap.size w w' := by
  have hz := zero64
  have hz8 := zero8
  go_enter Try.func22, Try.ntmps22
  go_wp2_with fail
  go_loopw [6, 18] (fun _ n wr => ∃ i : Nat, i ≤ 64 ∧ n = .int .i64 i ∧ Aside0 (Row wr w.heap.size 46 [s0, s1, s2, s3, s4, s5, s6, s7]) ∧ Aside0 (Row wr (w.heap.size + 1) 46 (zs 8)) ∧ Aside0 (Row wr (w.heap.size + 1 + 1) 58 (wl b i)) ∧ Aside0 (Below w.heap.size w wr)) (fun _ n _ => 64 - (intOf n).toNat)
  case atStart =>
    refine ⟨0, by omega, rfl, ⟨((Row.new w _ _).alloc _).alloc _⟩, ⟨?_⟩, ⟨?_⟩, ⟨(((Below.refl _ _).alloc (Nat.le_refl _) _).alloc (by simp) _).alloc (by simp; omega) _⟩⟩
    · have := (Row.new (w.alloc (.cells (arr .u32 [s0, s1, s2, s3, s4, s5, s6, s7]) 46)) 46 (zs 8)).alloc (.cells (arr .u32 (zs 64)) 58)
      simpa using this
    · have := Row.new ((w.alloc (.cells (arr .u32 [s0, s1, s2, s3, s4, s5, s6, s7]) 46)).alloc (.cells (arr .u32 (zs 8)) 46)) 58 (zs 64)
      simp only [World.size_alloc] at this
      exact this
  case round =>
    obtain ⟨i, hi, rfl, HS, HR, HW, HBl⟩ := hrel
    by_cases hlt : i < 64
    · by_cases h16 : i < 16
      · go_wp2_with fail
        go_loopw [7, 23] (fun _ n wr => ∃ j : Nat, j ≤ 4 ∧ n = .int .i64 j ∧ Aside0 (Row wr w.heap.size 46 [s0, s1, s2, s3, s4, s5, s6, s7]) ∧ Aside0 (Row wr (w.heap.size + 1) 46 (zs 8)) ∧ Aside0 (Row wr (w.heap.size + 1 + 1) 58 ((wl b i).set i (acc b i j))) ∧ Aside0 (Below w.heap.size w wr)) (fun _ n _ => 4 - (intOf n).toNat)
        case atStart => exact ⟨0, by omega, rfl, HS, HR, ⟨by rw [acc, wl_set_zero b i hlt]; exact HW.out⟩, HBl⟩
        case round =>
          clear HS HR HW HBl
          obtain ⟨j, hj, rfl, HS, HR, HW, HBl⟩ := hrel
          by_cases hj4 : j < 4
          · have hc := HW.out.cell i (by rw [List.length_set, wl_len]; exact hlt)
            have hf := HW.out.frozen i
            have hv : ((wl b i).set i (acc b i j)).getD i 0 = acc b i j := by
              rw [List.getD_eq_getElem?_getD, List.getElem?_set, if_pos rfl, wl_len, if_pos hlt]; rfl
            rw [hv] at hc
            clear hv
            have hidx : (4 * (i : Int) + (j : Int)).toNat = 4 * i + j := by omega
            have hw1 : IntKind.i64.wrap (4 * (i : Int)) = 4 * (i : Int) := IntWalk.i64_in _ (by omega)
            have hw2 : IntKind.i64.wrap (4 * (i : Int) + (j : Int)) = 4 * (i : Int) + (j : Int) := IntWalk.i64_in _ (by omega)
            have hix := index_at b (4 * (i : Int) + (j : Int)) (4 * i + j) (by omega) (by omega)
            have hbr := byteAt_rng b (4 * i + j)
            have hbm : byteAt b (4 * i + j) % 4294967296 = byteAt b (4 * i + j) := Int.emod_eq_of_lt (by omega) (by omega)
            go_wp2_with fail
            refine region_quiet_tail 14 (by kernel_rfl) (by kernel_rfl) ?_
            simp only [List.take_succ_cons, List.take_zero, List.drop_succ_cons, List.drop_zero]
            repeat (go_big_quiet_step (fail))
            refine wpQuiet_nil ?_
            intro _ hw'
            obtain ⟨nq, rfl⟩ := hw'
            have HS := Aside0.mk (HS.out.drewN nq)
            have HR := Aside0.mk (HR.out.drewN nq)
            have HBl := Aside0.mk (pw_below_drewN HBl.out nq)
            have hW := HW.out.drewN nq
            have hf : (wr.drewN nq).frozen? ⟨w.heap.size + 1 + 1, i, none⟩ = false := hW.frozen i
            have hc : (wr.drewN nq).cell? ⟨w.heap.size + 1 + 1, i, none⟩ = some (.int .u32 (acc b i j)) := hc
            have HW := Aside0.mk hW
            clear hW
            generalize wr.drewN nq = wr at *
            go_wp2
            go_roundw
            case rel =>
              refine ⟨j + 1, by omega, by go_num, ⟨HS.out.other (by omega) _ _⟩, ⟨HR.out.other (by omega) _ _⟩, ⟨?_⟩, ⟨HBl.out.setCell (by simp; omega) _⟩⟩
              have := HW.out.set i (acc b i (j + 1))
              rw [List.set_set] at this
              exact this
            case measure => simp [intOf]; omega
          · obtain rfl : j = 4 := by omega
            go_wp2
            go_roundw
            case rel =>
              refine ⟨i + 1, by omega, by go_num, HS, HR, ⟨?_⟩, HBl⟩
              have := HW.out
              rw [wl, wAt, if_pos h16]
              exact this
            case measure => simp [intOf]; omega
      · obtain ⟨m16, h16'⟩ : ∃ m : Nat, m + 16 = i := ⟨i - 16, by omega⟩
        obtain ⟨m15, h15⟩ : ∃ m : Nat, m + 15 = i := ⟨i - 15, by omega⟩
        obtain ⟨m7, h7⟩ : ∃ m : Nat, m + 7 = i := ⟨i - 7, by omega⟩
        obtain ⟨m2, h2⟩ : ∃ m : Nat, m + 2 = i := ⟨i - 2, by omega⟩
        have w16 : IntKind.i64.wrap ((i : Int) - 16) = (m16 : Int) := by rw [IntWalk.i64_in _ (by omega)]; omega
        have w15 : IntKind.i64.wrap ((i : Int) - 15) = (m15 : Int) := by rw [IntWalk.i64_in _ (by omega)]; omega
        have w7 : IntKind.i64.wrap ((i : Int) - 7) = (m7 : Int) := by rw [IntWalk.i64_in _ (by omega)]; omega
        have w2 : IntKind.i64.wrap ((i : Int) - 2) = (m2 : Int) := by rw [IntWalk.i64_in _ (by omega)]; omega
        have hL := wl_len b i
        have c16 := HW.out.cell m16 (by omega)
        have c15 := HW.out.cell m15 (by omega)
        have c7 := HW.out.cell m7 (by omega)
        have c2 := HW.out.cell m2 (by omega)
        have hci := HW.out.cell i (by omega)
        have HE : Hid (wAt b (wl b i) i = ((wl b i).getD m16 0 + (wl b i).getD m7 0 + sg0 ((wl b i).getD m15 0) + sg1 ((wl b i).getD m2 0)) % 4294967296) := Lib.hid (by
          unfold wAt
          rw [if_neg h16, show i - 16 = m16 by omega, show i - 7 = m7 by omega, show i - 15 = m15 by omega, show i - 2 = m2 by omega])
        have g16 : (m16 : Int) < 64 := by omega
        have g15 : (m15 : Int) < 64 := by omega
        have g7 : (m7 : Int) < 64 := by omega
        have g2 : (m2 : Int) < 64 := by omega
        have gi : (i : Int) < 64 := by omega
        clear h16' h15 h7 h2 hL
        generalize (wl b i).getD m16 0 = x16 at c16 HE
        generalize (wl b i).getD m15 0 = x15 at c15 HE
        generalize (wl b i).getD m7 0 = x7 at c7 HE
        generalize (wl b i).getD m2 0 = x2 at c2 HE
        generalize (wl b i).getD i 0 = xi at hci
        go_wp2_with fail
        go_quiet (fail)
        have HS := Aside0.mk (HS.out.drewN nq)
        have HR := Aside0.mk (HR.out.drewN nq)
        have HBl := Aside0.mk (pw_below_drewN HBl.out nq)
        have HW := Aside0.mk (HW.out.drewN nq)
        have c16 : (wr.drewN nq).cell? _ = _ := c16
        have c7 : (wr.drewN nq).cell? _ = _ := c7
        have hci : (wr.drewN nq).cell? _ = _ := hci
        clear c15 c2
        generalize wr.drewN nq = wr at *
        go_wp2_with fail
        refine region_quiet_tail 29 (by kernel_rfl) (by kernel_rfl) ?_
        simp only [List.take_succ_cons, List.take_zero, List.drop_succ_cons, List.drop_zero]
        repeat (go_big_quiet_step (exact right_q _ _ (by decide) (by decide) _ _))
        refine wpQuiet_nil ?_
        intro _ hw'
        obtain ⟨nq, rfl⟩ := hw'
        have HS := Aside0.mk (HS.out.drewN nq)
        have HR := Aside0.mk (HR.out.drewN nq)
        have HBl := Aside0.mk (pw_below_drewN HBl.out nq)
        have hW := HW.out.drewN nq
        have hf : (wr.drewN nq).frozen? ⟨w.heap.size + 1 + 1, i, none⟩ = false := hW.frozen i
        have hci : (wr.drewN nq).cell? _ = _ := hci
        have HW := Aside0.mk hW
        clear hW c16 c7
        generalize wr.drewN nq = wr at *
        go_wp2
        go_roundw
        case rel =>
          refine ⟨i + 1, by omega, by go_num, ⟨HS.out.other (by omega) _ _⟩, ⟨HR.out.other (by omega) _ _⟩, ⟨?_⟩, ⟨HBl.out.setCell (by simp; omega) _⟩⟩
          have := HW.out.set i (wAt b (wl b i) i)
          rw [HE.out] at this
          rw [wl, HE.out]
          exact this
        case measure => simp [intOf]; omega
    · have hge : 64 ≤ i := by omega
      have hi64 : Hid (i = 64) := Lib.hid (by omega)
      clear hi hlt
      have hWL := wl_len b i
      generalize hwle : wl b i = WL at HW hWL
      have hWLe : Hid (wl b i = WL) := Lib.hid hwle
      clear hwle
      go_wp2_with fail
      refine start_ (n := 6) (S := fun w' => Row w' w.heap.size 46 [s0, s1, s2, s3, s4, s5, s6, s7]) (ds := []) #[false, false, false, false, false, false] (by kernel_rfl) rfl rfl HS.out (fun hHeld => ?_)
      have HS := Aside0.mk (HS.out.drewN 1)
      have HR := Aside0.mk (HR.out.drewN 1)
      have HW := Aside0.mk (HW.out.drewN 1)
      have HBl := Aside0.mk (pw_below_drewN HBl.out 1)
      change wpAnyLast _ _ _ _ _ _ _ _ _ (wr.drewN 1)
      change Row (wr.drewN 1) _ _ _ at hHeld
      generalize wr.drewN 1 = wr at *
      refine take_ (i := 0) (N := some 79) (v := .agg (arr .u32 [s0, s1, s2, s3, s4, s5, s6, s7])) (a' := ?_) #[true, false, false, false, false, false] rfl rfl (by kernel_rfl) (fun _ _ _ h => h) (Or.inl ⟨by rfl, fun w' hw' => load_run _ 46 (.tmp 2) w.heap.size _ _ w' hw' Try.underlying46 size8 rfl rfl⟩) hHeld ?_ ?_
      rotate_left
      · simp only [Act.put, List.setIfInBounds_toArray, List.set_cons_zero, List.set_cons_succ]
        rfl
      clear hHeld
      refine join_ 2 #[true, true, true, true, false, false] (fun s : Nat × Nat => [(80, .agg (arr .u32 KL)), (10, .pointer (some ⟨s.1, 0, none⟩)), (11, .pointer (some ⟨s.2, 0, none⟩))]) (fun s w' => Row w' w.heap.size 46 [s0, s1, s2, s3, s4, s5, s6, s7] ∧ Row w' (w.heap.size + 1) 46 (zs 8) ∧ Row w' (w.heap.size + 1 + 1) 58 WL ∧ Row w' s.1 46 (zs 8) ∧ Row w' s.2 58 (zs 64) ∧ s.1 ≠ s.2 ∧ w.heap.size + 1 + 1 < s.1 ∧ w.heap.size + 1 + 1 < s.2 ∧ Below w.heap.size w w') ?_ (fun hcont => ?_)
      · rintro ⟨g10, g11⟩ wr ⟨hs, hr, hw, h10, h11, hne, hl10, hl11, hbl⟩
        refine norm_ (a' := ?_) ?_ ?_
        rotate_left
        · simp only [putAll, Act.put, List.setIfInBounds_toArray, List.set_cons_zero, List.set_cons_succ]
          rfl
        refine one_ (i := 4) (N := none) #[true, true, true, true, true, false] rfl rfl (by kernel_rfl) (by decide) (fun K hK => ?_)
        refine skip_ (by rfl) rfl (store_run _ 46 (.tmp 10) (.tmp 79) g10 _ h10 (ys := [s0, s1, s2, s3, s4, s5, s6, s7]) size8 rfl rfl rfl rfl) ?_
        refine hK.out _ _ (hs.past (by omega) _) (fun _ => ?_)
        clear hK K
        refine one_ (i := 5) (N := none) #[true, true, true, true, true, true] rfl rfl (by kernel_rfl) (by decide) (fun K hK => ?_)
        refine skip_ (by rfl) rfl (store_run _ 58 (.tmp 11) (.tmp 80) g11 _ (h11.past (by omega) _) (ys := KL) (by rw [KL_len]; exact size64) (by rw [KL_len, zs_len]) rfl rfl rfl) ?_
        refine hK.out _ _ ((hs.past (by omega) _).past (by omega) _) (fun _ => ?_)
        clear hK K
        refine done_ (by kernel_rfl) ?_
        have HS := Aside0.mk ((hs.past (show w.heap.size ≠ g10 by omega) (arr .u32 [s0, s1, s2, s3, s4, s5, s6, s7])).past (show w.heap.size ≠ g11 by omega) (arr .u32 KL))
        have HR := Aside0.mk ((hr.past (show w.heap.size + 1 ≠ g10 by omega) (arr .u32 [s0, s1, s2, s3, s4, s5, s6, s7])).past (show w.heap.size + 1 ≠ g11 by omega) (arr .u32 KL))
        have HW := Aside0.mk ((hw.past (show w.heap.size + 1 + 1 ≠ g10 by omega) (arr .u32 [s0, s1, s2, s3, s4, s5, s6, s7])).past (show w.heap.size + 1 + 1 ≠ g11 by omega) (arr .u32 KL))
        have HV := Aside0.mk ((h10.put [s0, s1, s2, s3, s4, s5, s6, s7]).past hne (arr .u32 KL))
        have HK := Aside0.mk ((h11.past (Ne.symm hne) (arr .u32 [s0, s1, s2, s3, s4, s5, s6, s7])).put KL)
        have HBl := Aside0.mk (below_setRow (below_setRow hbl (show w.heap.size ≤ g10 by omega) (arr .u32 [s0, s1, s2, s3, s4, s5, s6, s7])) (show w.heap.size ≤ g11 by omega) (arr .u32 KL))
        clear hs hr hw h10 h11 hbl
        generalize (wr.setRow g10 (arr .u32 [s0, s1, s2, s3, s4, s5, s6, s7])).setRow g11 (arr .u32 KL) = wr at *
        go_wp2_with fail
        go_loopw [12, 81] (fun _ n wr => ∃ i : Nat, i ≤ 64 ∧ n = .int .i64 i ∧ Aside0 (Row wr w.heap.size 46 [s0, s1, s2, s3, s4, s5, s6, s7]) ∧ Aside0 (Row wr (w.heap.size + 1) 46 (zs 8)) ∧ Aside0 (Row wr (w.heap.size + 1 + 1) 58 WL) ∧ Aside0 (Row wr g10 46 (cv ⟨s0, s1, s2, s3, s4, s5, s6, s7⟩ KL WL i).l) ∧ Aside0 (Row wr g11 58 KL) ∧ Aside0 (Below w.heap.size w wr)) (fun _ n _ => 64 - (intOf n).toNat)
        case atStart => exact ⟨0, by omega, rfl, HS, HR, HW, HV, HK, HBl⟩
        case round =>
          clear HS HR HW HV HK HBl
          obtain ⟨i, hi, rfl, HS, HR, HW, HV, HK, HBl⟩ := hrel
          by_cases hlt : i < 64
          · have hR : Hid (stp (cv ⟨s0, s1, s2, s3, s4, s5, s6, s7⟩ KL WL i) (KL.getD i 0) (WL.getD i 0) = cv ⟨s0, s1, s2, s3, s4, s5, s6, s7⟩ KL WL (i + 1)) := Lib.hid rfl
            have ck := HK.out.cell i (by rw [KL_len]; exact hlt)
            have cw := HW.out.cell i (by rw [hWL]; exact hlt)
            generalize KL.getD i 0 = kk at ck hR
            generalize WL.getD i 0 = ww at cw hR
            generalize cv ⟨s0, s1, s2, s3, s4, s5, s6, s7⟩ KL WL i = x at HV hR
            obtain ⟨a, b', c, d, e, f, g, h⟩ := x
            have c0 : wr.cell? ⟨g10, 0, none⟩ = some (.int .u32 a) := HV.out.cell 0 (by simp [V8.l])
            have c1 : wr.cell? ⟨g10, 1, none⟩ = some (.int .u32 b') := HV.out.cell 1 (by simp [V8.l])
            have c2 : wr.cell? ⟨g10, 2, none⟩ = some (.int .u32 c) := HV.out.cell 2 (by simp [V8.l])
            have c3 : wr.cell? ⟨g10, 3, none⟩ = some (.int .u32 d) := HV.out.cell 3 (by simp [V8.l])
            have c4 : wr.cell? ⟨g10, 4, none⟩ = some (.int .u32 e) := HV.out.cell 4 (by simp [V8.l])
            have c5 : wr.cell? ⟨g10, 5, none⟩ = some (.int .u32 f) := HV.out.cell 5 (by simp [V8.l])
            have c6 : wr.cell? ⟨g10, 6, none⟩ = some (.int .u32 g) := HV.out.cell 6 (by simp [V8.l])
            have c7 : wr.cell? ⟨g10, 7, none⟩ = some (.int .u32 h) := HV.out.cell 7 (by simp [V8.l])
            go_wp2_with fail
            go_quiet (fail)
            have HS := Aside0.mk (HS.out.drewN nq)
            have HR := Aside0.mk (HR.out.drewN nq)
            have HW := Aside0.mk (HW.out.drewN nq)
            have HV := Aside0.mk (HV.out.drewN nq)
            have HK := Aside0.mk (HK.out.drewN nq)
            have HBl := Aside0.mk (pw_below_drewN HBl.out nq)
            have c0 : (wr.drewN nq).cell? _ = _ := c0
            have c1 : (wr.drewN nq).cell? _ = _ := c1
            have c2 : (wr.drewN nq).cell? _ = _ := c2
            have c3 : (wr.drewN nq).cell? _ = _ := c3
            have c4 : (wr.drewN nq).cell? _ = _ := c4
            have c5 : (wr.drewN nq).cell? _ = _ := c5
            have c6 : (wr.drewN nq).cell? _ = _ := c6
            have c7 : (wr.drewN nq).cell? _ = _ := c7
            have ck : (wr.drewN nq).cell? _ = _ := ck
            have cw : (wr.drewN nq).cell? _ = _ := cw
            generalize wr.drewN nq = wr at *
            go_wp2_with fail
            go_quiet (exact right_q _ _ (by decide) (by decide) _ _)
            have HS := Aside0.mk (HS.out.drewN nq)
            have HR := Aside0.mk (HR.out.drewN nq)
            have HW := Aside0.mk (HW.out.drewN nq)
            have HV := Aside0.mk (HV.out.drewN nq)
            have HK := Aside0.mk (HK.out.drewN nq)
            have HBl := Aside0.mk (pw_below_drewN HBl.out nq)
            have c0 : (wr.drewN nq).cell? _ = _ := c0
            have c1 : (wr.drewN nq).cell? _ = _ := c1
            have c2 : (wr.drewN nq).cell? _ = _ := c2
            have c3 : (wr.drewN nq).cell? _ = _ := c3
            have c4 : (wr.drewN nq).cell? _ = _ := c4
            have c5 : (wr.drewN nq).cell? _ = _ := c5
            have c6 : (wr.drewN nq).cell? _ = _ := c6
            have c7 : (wr.drewN nq).cell? _ = _ := c7
            generalize wr.drewN nq = wr at *
            rw [show ((h + Go.bits .xor .u32 (Go.bits .xor .u32 (rr e 6) (rr e 11)) (rr e 25) + Go.bits .xor .u32 g (Go.bits .and .u32 e (Go.bits .xor .u32 f g)) + kk) % 4294967296 + ww) % 4294967296 = tt e f g h kk ww from rfl]
            have HT : Hid (stp ⟨a, b', c, d, e, f, g, h⟩ kk ww = ⟨(tt e f g h kk ww + uu a b' c) % 4294967296, a, b', c, (d + tt e f g h kk ww) % 4294967296, e, f, g⟩) := Lib.hid rfl
            generalize tt e f g h kk ww = t at *
            go_wp2_with fail
            go_quiet (exact right_q _ _ (by decide) (by decide) _ _)
            have HS := Aside0.mk (HS.out.drewN nq)
            have HR := Aside0.mk (HR.out.drewN nq)
            have HW := Aside0.mk (HW.out.drewN nq)
            have HV := Aside0.mk (HV.out.drewN nq)
            have HK := Aside0.mk (HK.out.drewN nq)
            have HBl := Aside0.mk (pw_below_drewN HBl.out nq)
            have c0 : (wr.drewN nq).cell? _ = _ := c0
            have c1 : (wr.drewN nq).cell? _ = _ := c1
            have c2 : (wr.drewN nq).cell? _ = _ := c2
            have c3 : (wr.drewN nq).cell? _ = _ := c3
            have c4 : (wr.drewN nq).cell? _ = _ := c4
            have c5 : (wr.drewN nq).cell? _ = _ := c5
            have c6 : (wr.drewN nq).cell? _ = _ := c6
            have c7 : (wr.drewN nq).cell? _ = _ := c7
            generalize wr.drewN nq = wr at *
            rw [show (Go.bits .xor .u32 (Go.bits .xor .u32 (rr a 2) (rr a 13)) (rr a 22) + Go.bits .or .u32 (Go.bits .and .u32 a b') (Go.bits .and .u32 c (Go.bits .or .u32 a b'))) % 4294967296 = uu a b' c from rfl]
            generalize uu a b' c = u at *
            have f0 := HV.out.frozen 0
            have f1 := HV.out.frozen 1
            have f2 := HV.out.frozen 2
            have f3 := HV.out.frozen 3
            have f4 := HV.out.frozen 4
            have f5 := HV.out.frozen 5
            have f6 := HV.out.frozen 6
            have f7 := HV.out.frozen 7
            go_wp2_with fail
            refine region_quiet_tail 2 (by kernel_rfl) (by kernel_rfl) ?_
            simp only [List.take_succ_cons, List.take_zero, List.drop_succ_cons, List.drop_zero]
            repeat (go_big_quiet_step (fail))
            refine wpQuiet_nil ?_
            intro _ hw'
            obtain ⟨nq, rfl⟩ := hw'
            have f0 : (wr.drewN nq).frozen? _ = false := f0
            have f1 : (wr.drewN nq).frozen? _ = false := f1
            have f2 : (wr.drewN nq).frozen? _ = false := f2
            have f3 : (wr.drewN nq).frozen? _ = false := f3
            have f4 : (wr.drewN nq).frozen? _ = false := f4
            have f5 : (wr.drewN nq).frozen? _ = false := f5
            have f6 : (wr.drewN nq).frozen? _ = false := f6
            have f7 : (wr.drewN nq).frozen? _ = false := f7
            have HS := Aside0.mk (HS.out.drewN nq)
            have HR := Aside0.mk (HR.out.drewN nq)
            have HW := Aside0.mk (HW.out.drewN nq)
            have HV := Aside0.mk (HV.out.drewN nq)
            have HK := Aside0.mk (HK.out.drewN nq)
            have HBl := Aside0.mk (pw_below_drewN HBl.out nq)
            have c0 : (wr.drewN nq).cell? _ = _ := c0
            have c1 : (wr.drewN nq).cell? _ = _ := c1
            have c2 : (wr.drewN nq).cell? _ = _ := c2
            have c3 : (wr.drewN nq).cell? _ = _ := c3
            have c4 : (wr.drewN nq).cell? _ = _ := c4
            have c5 : (wr.drewN nq).cell? _ = _ := c5
            have c6 : (wr.drewN nq).cell? _ = _ := c6
            have c7 : (wr.drewN nq).cell? _ = _ := c7
            generalize wr.drewN nq = wr at *
            have hcp := copy_shift wr _ g10 a b' c d e f g h HV.out
            have HS := Aside0.mk (HS.out.past (show w.heap.size ≠ g10 by omega) (arr .u32 [a, a, b', c, d, e, f, g]))
            have HR := Aside0.mk (HR.out.past (show w.heap.size + 1 ≠ g10 by omega) (arr .u32 [a, a, b', c, d, e, f, g]))
            have HW := Aside0.mk (HW.out.past (show w.heap.size + 1 + 1 ≠ g10 by omega) (arr .u32 [a, a, b', c, d, e, f, g]))
            have HK := Aside0.mk (HK.out.past (Ne.symm hne) (arr .u32 [a, a, b', c, d, e, f, g]))
            have HBl := Aside0.mk (below_setRow HBl.out (show w.heap.size ≤ g10 by omega) (arr .u32 [a, a, b', c, d, e, f, g]))
            have HV := Aside0.mk (HV.out.put [a, a, b', c, d, e, f, g])
            clear c0 c1 c2 c3 c4 c5 c6 c7 f0 f1 f2 f3 f4 f5 f6 f7
            generalize hw2 : wr.setRow g10 (arr .u32 [a, a, b', c, d, e, f, g]) = w2 at *
            clear hw2
            have c0 : w2.cell? ⟨g10, 0, none⟩ = some (.int .u32 a) := HV.out.cell 0 (by simp)
            have c4 : w2.cell? ⟨g10, 4, none⟩ = some (.int .u32 d) := HV.out.cell 4 (by simp)
            have f0 := HV.out.frozen 0
            have f4 := HV.out.frozen 4
            go_wp2
            go_roundw
            case rel =>
              refine ⟨i + 1, by omega, by go_num, ⟨(HS.out.other (by omega) _ _).other (by omega) _ _⟩, ⟨(HR.out.other (by omega) _ _).other (by omega) _ _⟩, ⟨(HW.out.other (by omega) _ _).other (by omega) _ _⟩, ⟨?_⟩, ⟨(HK.out.other (Ne.symm hne) _ _).other (Ne.symm hne) _ _⟩, ⟨(HBl.out.setCell (by simp; omega) _).setCell (by simp; omega) _⟩⟩
              rw [← hR.out]
              rw [HT.out]
              exact (HV.out.set 0 _).set 4 _
            case measure => simp [intOf]; omega
          · have hge2 : 64 ≤ i := by omega
            have hi642 : Hid (i = 64) := Lib.hid (by omega)
            generalize hxv0 : cv ⟨s0, s1, s2, s3, s4, s5, s6, s7⟩ KL WL i = xv at HV
            have hxv := Lib.hid hxv0
            clear hxv0
            have hvl : xv.l.length = 8 := rfl
            clear HK HW
            go_wp2_with fail
            go_loopw [17, 152] (fun _ n wr => ∃ i : Nat, i ≤ 8 ∧ n = .int .i64 i ∧ Aside0 (Row wr w.heap.size 46 (ad [s0, s1, s2, s3, s4, s5, s6, s7] xv.l i)) ∧ Aside0 (Row wr (w.heap.size + 1) 46 (zs 8)) ∧ Aside0 (Row wr g10 46 xv.l) ∧ Aside0 (Below w.heap.size w wr)) (fun _ n _ => 8 - (intOf n).toNat)
            case atStart => exact ⟨0, by omega, rfl, HS, HR, HV, HBl⟩
            case round =>
              clear HS HR HV HBl
              obtain ⟨i, hi, rfl, HS, HR, HV, HBl⟩ := hrel
              have hsl : (ad [s0, s1, s2, s3, s4, s5, s6, s7] xv.l i).length = 8 := ad_len _ _ _
              by_cases hlt : i < 8
              · have hA : Hid ((ad [s0, s1, s2, s3, s4, s5, s6, s7] xv.l i).set i (((ad [s0, s1, s2, s3, s4, s5, s6, s7] xv.l i).getD i 0 + xv.l.getD i 0) % 4294967296) = ad [s0, s1, s2, s3, s4, s5, s6, s7] xv.l (i + 1)) := Lib.hid rfl
                have c1 := HS.out.cell i (by omega)
                have c2 := HV.out.cell i (by omega)
                have f1 := HS.out.frozen i
                generalize ad [s0, s1, s2, s3, s4, s5, s6, s7] xv.l i = az at *
                generalize az.getD i 0 = p1 at c1 hA
                generalize xv.l.getD i 0 = p2 at c2 hA
                go_wp2_with fail
                refine region_quiet_tail 8 (by kernel_rfl) (by kernel_rfl) ?_
                simp only [List.take_succ_cons, List.take_zero, List.drop_succ_cons, List.drop_zero]
                repeat (go_big_quiet_step (fail))
                refine wpQuiet_nil ?_
                intro _ hw'
                obtain ⟨nq, rfl⟩ := hw'
                have HS := Aside0.mk (HS.out.drewN nq)
                have HR := Aside0.mk (HR.out.drewN nq)
                have HV := Aside0.mk (HV.out.drewN nq)
                have HBl := Aside0.mk (pw_below_drewN HBl.out nq)
                have c1 : (wr.drewN nq).cell? _ = _ := c1
                have f1 : (wr.drewN nq).frozen? _ = false := f1
                clear c2
                generalize wr.drewN nq = wr at *
                go_wp2
                go_roundw
                case rel =>
                  refine ⟨i + 1, by omega, by go_num, ⟨?_⟩, ⟨HR.out.other (by omega) _ _⟩, ⟨HV.out.other (by omega) _ _⟩, ⟨HBl.out.setCell (by simp) _⟩⟩
                  rw [← hA.out]
                  exact HS.out.set i _
                case measure => simp [intOf]; omega
              · obtain rfl : i = 8 := by omega
                have hE : Hid (ad [s0, s1, s2, s3, s4, s5, s6, s7] xv.l 8 = blk KL ⟨s0, s1, s2, s3, s4, s5, s6, s7⟩ b) := Lib.hid (blk_eq _ _ _ _ _ _ _ hi64.out hWLe.out hi642.out hxv.out)
                generalize ad [s0, s1, s2, s3, s4, s5, s6, s7] xv.l 8 = az at *
                go_wp2_with (first | (refine gate_ (.load 46 (.tmp 2)) rfl ?_; refine wpList_load_row rfl 46 (.tmp 2) rfl w.heap.size rfl _ (arr .u32 az) (0, 0) _ HS.out Try.underlying46 rfl (by rw [arr_size, hsl]; exact size8) ?_; simp only [Act.put, List.setIfInBounds_toArray, List.set_cons_zero, List.set_cons_succ]) | (refine gate_ (.store 46 (.tmp 4) (.tmp 164)) rfl ?_; refine wpList_plain rfl (fun K hK => ?_); refine wp_store_row 46 (.tmp 4) (.tmp 164) rfl (w.heap.size + 1) (arr .u32 az) rfl rfl 46 (arr .u32 (zs 8)) HR.out (by rw [arr_size, hsl]; exact size8) (by rw [arr_size, arr_size, hsl, zs_len]) (arr_one _ _) (hK _ _ ?_); clear hK K))
                refine bodyPost_ret (results_cell_row rfl _ _ (w.heap.size + 1) 46 (arr .u32 az) (0, 0) _ rfl (HR.out.put az) Try.underlying46 rfl (by rw [arr_size, hsl]; exact size8)) rfl ⟨by rw [hE.out, hres.out], below_setRow HBl.out (by omega) _⟩
      · refine three_ (i := 1) (Ni := some 80) (j := 2) (Nj := some 10) (k := 3) (Nk := some 11) #[true, true, false, false, false, false] #[true, false, true, false, false, false] #[true, false, false, true, false, false] rfl rfl rfl rfl rfl rfl (by kernel_rfl) (by decide) (by decide) (by decide) (fun K hK => ?_) (fun K hK => ?_) (fun K hK => ?_)
        · refine goes_ Try.func29 (by kernel_rfl) rfl #[] (by rfl) rfl rfl (by simp) ?_
          refine (constants_calls _).mono ?_
          rintro e wn ⟨rfl, hb⟩
          refine ⟨_, rfl, ?_⟩
          have HS := Aside0.mk (HS.out.keep hb)
          have HR := Aside0.mk (HR.out.keep hb)
          have HW := Aside0.mk (HW.out.keep hb)
          have HBl := Aside0.mk (below2 HBl.out HBl.out.size hb)
          clear hb
          refine hK.out _ _ HS.out (fun _ => ?_)
          clear hK K
          refine two_ (i := 2) (Ni := some 10) (j := 3) (Nj := some 11) #[true, true, true, false, false, false] #[true, true, false, true, false, false] rfl rfl rfl rfl (by kernel_rfl) (by decide) (by decide) (fun K hK => ?_) (fun K hK => ?_)
          · refine value_ (by rfl) rfl (alloc_run _ 46 _ (hz8 _) rfl) ?_
            have G10 := Aside0.mk (Row.new wn 46 (zs 8))
            have q10 : w.heap.size + 1 + 1 < wn.heap.size := HW.out.lt
            generalize hg10 : wn.heap.size = g10 at G10 q10 ⊢
            have HS := Aside0.mk (HS.out.alloc (.cells (arr .u32 (zs 8)) 46))
            have HR := Aside0.mk (HR.out.alloc (.cells (arr .u32 (zs 8)) 46))
            have HW := Aside0.mk (HW.out.alloc (.cells (arr .u32 (zs 8)) 46))
            have HBl := Aside0.mk (below_alloc HBl.out (.cells (arr .u32 (zs 8)) 46))
            generalize wn.alloc (.cells (arr .u32 (zs 8)) 46) = wn at *
            refine hK.out _ _ HS.out (fun _ => ?_)
            clear hK K
            refine one_ (i := 3) (N := some 11) #[true, true, true, true, false, false] rfl rfl (by kernel_rfl) (by decide) (fun K hK => ?_)
            refine value_ (by rfl) rfl (alloc_run _ 58 _ (hz _) rfl) ?_
            have G11 := Aside0.mk (Row.new wn 58 (zs 64))
            have q11 : w.heap.size + 1 + 1 < wn.heap.size := HW.out.lt
            have q1011 : g10 < wn.heap.size := G10.out.lt
            generalize hg11 : wn.heap.size = g11 at G11 q11 q1011 ⊢
            have HS := Aside0.mk (HS.out.alloc (.cells (arr .u32 (zs 64)) 58))
            have HR := Aside0.mk (HR.out.alloc (.cells (arr .u32 (zs 64)) 58))
            have HW := Aside0.mk (HW.out.alloc (.cells (arr .u32 (zs 64)) 58))
            have G10 := Aside0.mk (G10.out.alloc (.cells (arr .u32 (zs 64)) 58))
            have HBl := Aside0.mk (below_alloc HBl.out (.cells (arr .u32 (zs 64)) 58))
            generalize wn.alloc (.cells (arr .u32 (zs 64)) 58) = wn at *
            refine hK.out _ _ HS.out (fun _ => ?_)
            clear hK K
            exact norm_ rfl (hcont (g10, g11) _ ⟨HS.out, HR.out, HW.out, G10.out, G11.out, by omega, by omega, by omega, HBl.out⟩)
          · refine value_ (by rfl) rfl (alloc_run _ 58 _ (hz _) rfl) ?_
            have G11 := Aside0.mk (Row.new wn 58 (zs 64))
            have q11 : w.heap.size + 1 + 1 < wn.heap.size := HW.out.lt
            generalize hg11 : wn.heap.size = g11 at G11 q11 ⊢
            have HS := Aside0.mk (HS.out.alloc (.cells (arr .u32 (zs 64)) 58))
            have HR := Aside0.mk (HR.out.alloc (.cells (arr .u32 (zs 64)) 58))
            have HW := Aside0.mk (HW.out.alloc (.cells (arr .u32 (zs 64)) 58))
            have HBl := Aside0.mk (below_alloc HBl.out (.cells (arr .u32 (zs 64)) 58))
            generalize wn.alloc (.cells (arr .u32 (zs 64)) 58) = wn at *
            refine hK.out _ _ HS.out (fun _ => ?_)
            clear hK K
            refine one_ (i := 2) (N := some 10) #[true, true, true, true, false, false] rfl rfl (by kernel_rfl) (by decide) (fun K hK => ?_)
            refine value_ (by rfl) rfl (alloc_run _ 46 _ (hz8 _) rfl) ?_
            have G10 := Aside0.mk (Row.new wn 46 (zs 8))
            have q10 : w.heap.size + 1 + 1 < wn.heap.size := HW.out.lt
            have q1011 : g11 < wn.heap.size := G11.out.lt
            generalize hg10 : wn.heap.size = g10 at G10 q10 q1011 ⊢
            have HS := Aside0.mk (HS.out.alloc (.cells (arr .u32 (zs 8)) 46))
            have HR := Aside0.mk (HR.out.alloc (.cells (arr .u32 (zs 8)) 46))
            have HW := Aside0.mk (HW.out.alloc (.cells (arr .u32 (zs 8)) 46))
            have G11 := Aside0.mk (G11.out.alloc (.cells (arr .u32 (zs 8)) 46))
            have HBl := Aside0.mk (below_alloc HBl.out (.cells (arr .u32 (zs 8)) 46))
            generalize wn.alloc (.cells (arr .u32 (zs 8)) 46) = wn at *
            refine hK.out _ _ HS.out (fun _ => ?_)
            clear hK K
            exact norm_ rfl (hcont (g10, g11) _ ⟨HS.out, HR.out, HW.out, G10.out, G11.out, by omega, by omega, by omega, HBl.out⟩)
        · refine value_ (by rfl) rfl (alloc_run _ 46 _ (hz8 _) rfl) ?_
          have G10 := Aside0.mk (Row.new wr 46 (zs 8))
          have q10 : w.heap.size + 1 + 1 < wr.heap.size := HW.out.lt
          generalize hg10 : wr.heap.size = g10 at G10 q10 ⊢
          have HS := Aside0.mk (HS.out.alloc (.cells (arr .u32 (zs 8)) 46))
          have HR := Aside0.mk (HR.out.alloc (.cells (arr .u32 (zs 8)) 46))
          have HW := Aside0.mk (HW.out.alloc (.cells (arr .u32 (zs 8)) 46))
          have HBl := Aside0.mk (below_alloc HBl.out (.cells (arr .u32 (zs 8)) 46))
          generalize wr.alloc (.cells (arr .u32 (zs 8)) 46) = wn at *
          refine hK.out _ _ HS.out (fun _ => ?_)
          clear hK K
          refine two_ (i := 1) (Ni := some 80) (j := 3) (Nj := some 11) #[true, true, true, false, false, false] #[true, false, true, true, false, false] rfl rfl rfl rfl (by kernel_rfl) (by decide) (by decide) (fun K hK => ?_) (fun K hK => ?_)
          · refine goes_ Try.func29 (by kernel_rfl) rfl #[] (by rfl) rfl rfl (by simp) ?_
            refine (constants_calls _).mono ?_
            rintro e wn ⟨rfl, hb⟩
            refine ⟨_, rfl, ?_⟩
            have HS := Aside0.mk (HS.out.keep hb)
            have HR := Aside0.mk (HR.out.keep hb)
            have HW := Aside0.mk (HW.out.keep hb)
            have G10 := Aside0.mk (G10.out.keep hb)
            have HBl := Aside0.mk (below2 HBl.out HBl.out.size hb)
            clear hb
            refine hK.out _ _ HS.out (fun _ => ?_)
            clear hK K
            refine one_ (i := 3) (N := some 11) #[true, true, true, true, false, false] rfl rfl (by kernel_rfl) (by decide) (fun K hK => ?_)
            refine value_ (by rfl) rfl (alloc_run _ 58 _ (hz _) rfl) ?_
            have G11 := Aside0.mk (Row.new wn 58 (zs 64))
            have q11 : w.heap.size + 1 + 1 < wn.heap.size := HW.out.lt
            have q1011 : g10 < wn.heap.size := G10.out.lt
            generalize hg11 : wn.heap.size = g11 at G11 q11 q1011 ⊢
            have HS := Aside0.mk (HS.out.alloc (.cells (arr .u32 (zs 64)) 58))
            have HR := Aside0.mk (HR.out.alloc (.cells (arr .u32 (zs 64)) 58))
            have HW := Aside0.mk (HW.out.alloc (.cells (arr .u32 (zs 64)) 58))
            have G10 := Aside0.mk (G10.out.alloc (.cells (arr .u32 (zs 64)) 58))
            have HBl := Aside0.mk (below_alloc HBl.out (.cells (arr .u32 (zs 64)) 58))
            generalize wn.alloc (.cells (arr .u32 (zs 64)) 58) = wn at *
            refine hK.out _ _ HS.out (fun _ => ?_)
            clear hK K
            exact norm_ rfl (hcont (g10, g11) _ ⟨HS.out, HR.out, HW.out, G10.out, G11.out, by omega, by omega, by omega, HBl.out⟩)
          · refine value_ (by rfl) rfl (alloc_run _ 58 _ (hz _) rfl) ?_
            have G11 := Aside0.mk (Row.new wn 58 (zs 64))
            have q11 : w.heap.size + 1 + 1 < wn.heap.size := HW.out.lt
            have q1011 : g10 < wn.heap.size := G10.out.lt
            generalize hg11 : wn.heap.size = g11 at G11 q11 q1011 ⊢
            have HS := Aside0.mk (HS.out.alloc (.cells (arr .u32 (zs 64)) 58))
            have HR := Aside0.mk (HR.out.alloc (.cells (arr .u32 (zs 64)) 58))
            have HW := Aside0.mk (HW.out.alloc (.cells (arr .u32 (zs 64)) 58))
            have G10 := Aside0.mk (G10.out.alloc (.cells (arr .u32 (zs 64)) 58))
            have HBl := Aside0.mk (below_alloc HBl.out (.cells (arr .u32 (zs 64)) 58))
            generalize wn.alloc (.cells (arr .u32 (zs 64)) 58) = wn at *
            refine hK.out _ _ HS.out (fun _ => ?_)
            clear hK K
            refine one_ (i := 1) (N := some 80) #[true, true, true, true, false, false] rfl rfl (by kernel_rfl) (by decide) (fun K hK => ?_)
            refine goes_ Try.func29 (by kernel_rfl) rfl #[] (by rfl) rfl rfl (by simp) ?_
            refine (constants_calls _).mono ?_
            rintro e wn ⟨rfl, hb⟩
            refine ⟨_, rfl, ?_⟩
            have HS := Aside0.mk (HS.out.keep hb)
            have HR := Aside0.mk (HR.out.keep hb)
            have HW := Aside0.mk (HW.out.keep hb)
            have G10 := Aside0.mk (G10.out.keep hb)
            have G11 := Aside0.mk (G11.out.keep hb)
            have HBl := Aside0.mk (below2 HBl.out HBl.out.size hb)
            clear hb
            refine hK.out _ _ HS.out (fun _ => ?_)
            clear hK K
            exact norm_ rfl (hcont (g10, g11) _ ⟨HS.out, HR.out, HW.out, G10.out, G11.out, by omega, by omega, by omega, HBl.out⟩)
        · refine value_ (by rfl) rfl (alloc_run _ 58 _ (hz _) rfl) ?_
          have G11 := Aside0.mk (Row.new wr 58 (zs 64))
          have q11 : w.heap.size + 1 + 1 < wr.heap.size := HW.out.lt
          generalize hg11 : wr.heap.size = g11 at G11 q11 ⊢
          have HS := Aside0.mk (HS.out.alloc (.cells (arr .u32 (zs 64)) 58))
          have HR := Aside0.mk (HR.out.alloc (.cells (arr .u32 (zs 64)) 58))
          have HW := Aside0.mk (HW.out.alloc (.cells (arr .u32 (zs 64)) 58))
          have HBl := Aside0.mk (below_alloc HBl.out (.cells (arr .u32 (zs 64)) 58))
          generalize wr.alloc (.cells (arr .u32 (zs 64)) 58) = wn at *
          refine hK.out _ _ HS.out (fun _ => ?_)
          clear hK K
          refine two_ (i := 1) (Ni := some 80) (j := 2) (Nj := some 10) #[true, true, false, true, false, false] #[true, false, true, true, false, false] rfl rfl rfl rfl (by kernel_rfl) (by decide) (by decide) (fun K hK => ?_) (fun K hK => ?_)
          · refine goes_ Try.func29 (by kernel_rfl) rfl #[] (by rfl) rfl rfl (by simp) ?_
            refine (constants_calls _).mono ?_
            rintro e wn ⟨rfl, hb⟩
            refine ⟨_, rfl, ?_⟩
            have HS := Aside0.mk (HS.out.keep hb)
            have HR := Aside0.mk (HR.out.keep hb)
            have HW := Aside0.mk (HW.out.keep hb)
            have G11 := Aside0.mk (G11.out.keep hb)
            have HBl := Aside0.mk (below2 HBl.out HBl.out.size hb)
            clear hb
            refine hK.out _ _ HS.out (fun _ => ?_)
            clear hK K
            refine one_ (i := 2) (N := some 10) #[true, true, true, true, false, false] rfl rfl (by kernel_rfl) (by decide) (fun K hK => ?_)
            refine value_ (by rfl) rfl (alloc_run _ 46 _ (hz8 _) rfl) ?_
            have G10 := Aside0.mk (Row.new wn 46 (zs 8))
            have q10 : w.heap.size + 1 + 1 < wn.heap.size := HW.out.lt
            have q1011 : g11 < wn.heap.size := G11.out.lt
            generalize hg10 : wn.heap.size = g10 at G10 q10 q1011 ⊢
            have HS := Aside0.mk (HS.out.alloc (.cells (arr .u32 (zs 8)) 46))
            have HR := Aside0.mk (HR.out.alloc (.cells (arr .u32 (zs 8)) 46))
            have HW := Aside0.mk (HW.out.alloc (.cells (arr .u32 (zs 8)) 46))
            have G11 := Aside0.mk (G11.out.alloc (.cells (arr .u32 (zs 8)) 46))
            have HBl := Aside0.mk (below_alloc HBl.out (.cells (arr .u32 (zs 8)) 46))
            generalize wn.alloc (.cells (arr .u32 (zs 8)) 46) = wn at *
            refine hK.out _ _ HS.out (fun _ => ?_)
            clear hK K
            exact norm_ rfl (hcont (g10, g11) _ ⟨HS.out, HR.out, HW.out, G10.out, G11.out, by omega, by omega, by omega, HBl.out⟩)
          · refine value_ (by rfl) rfl (alloc_run _ 46 _ (hz8 _) rfl) ?_
            have G10 := Aside0.mk (Row.new wn 46 (zs 8))
            have q10 : w.heap.size + 1 + 1 < wn.heap.size := HW.out.lt
            have q1011 : g11 < wn.heap.size := G11.out.lt
            generalize hg10 : wn.heap.size = g10 at G10 q10 q1011 ⊢
            have HS := Aside0.mk (HS.out.alloc (.cells (arr .u32 (zs 8)) 46))
            have HR := Aside0.mk (HR.out.alloc (.cells (arr .u32 (zs 8)) 46))
            have HW := Aside0.mk (HW.out.alloc (.cells (arr .u32 (zs 8)) 46))
            have G11 := Aside0.mk (G11.out.alloc (.cells (arr .u32 (zs 8)) 46))
            have HBl := Aside0.mk (below_alloc HBl.out (.cells (arr .u32 (zs 8)) 46))
            generalize wn.alloc (.cells (arr .u32 (zs 8)) 46) = wn at *
            refine hK.out _ _ HS.out (fun _ => ?_)
            clear hK K
            refine one_ (i := 1) (N := some 80) #[true, true, true, true, false, false] rfl rfl (by kernel_rfl) (by decide) (fun K hK => ?_)
            refine goes_ Try.func29 (by kernel_rfl) rfl #[] (by rfl) rfl rfl (by simp) ?_
            refine (constants_calls _).mono ?_
            rintro e wn ⟨rfl, hb⟩
            refine ⟨_, rfl, ?_⟩
            have HS := Aside0.mk (HS.out.keep hb)
            have HR := Aside0.mk (HR.out.keep hb)
            have HW := Aside0.mk (HW.out.keep hb)
            have G10 := Aside0.mk (G10.out.keep hb)
            have G11 := Aside0.mk (G11.out.keep hb)
            have HBl := Aside0.mk (below2 HBl.out HBl.out.size hb)
            clear hb
            refine hK.out _ _ HS.out (fun _ => ?_)
            clear hK K
            exact norm_ rfl (hcont (g10, g11) _ ⟨HS.out, HR.out, HW.out, G10.out, G11.out, by omega, by omega, by omega, HBl.out⟩)
end Go.Proofs.Ytaobnbmpeplefaa
