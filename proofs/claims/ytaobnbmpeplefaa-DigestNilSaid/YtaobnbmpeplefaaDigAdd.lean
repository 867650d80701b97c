/- (*State).Add: its walk. -/
import Derived.Test.YtaobnbmpeplefaaDigState
namespace Go.Proofs.Ytaobnbmpeplefaa
open Go.RowKit Q Go.Proofs.YtaobnbmpeplefaaW.PrintWords Go.Proofs.YtaobnbmpeplefaaW.PrintLast Go.Proofs.YtaobnbmpeplefaaW.PrintMore
theorem DSt.load8 {w : World} {g : Nat} {x : V8} {r : ByteArray} {n : Int} (h : DSt w g x r n) : (Instr.loadAt 46 (.pointer (some ⟨g, 0, none⟩))).run Try.prog w = .ok (.agg x.cells) w :=
  run_loadAt_mid w g 0 46 x.cells.toList _ h.range Try.underlying46 rfl (by rw [size8]; rfl)
theorem load8_run (ev : Operand → Value) (x : Operand) {W : World} {g : Nat} {y : V8} {r : ByteArray} {n : Int} (h : DSt W g y r n) (hx : ev x = .pointer (some ⟨g, 0, none⟩)) {o : Oper} (ho : o.op = .load 46 x) :
    (execOp ev o).run Try.prog W = .ok (.value (.agg y.cells)) W := by
  unfold execOp
  simp only [ho, hx, Sem.run_bind, Result.andThen_ok, h.load8, Sem.run_pure]
theorem store8_run (ev : Operand → Value) (x y : Operand) {W : World} {g : Nat} {x0 : V8} {r : ByteArray} {n : Int} (h : DSt W g x0 r n) (z : V8) (hx : ev x = .pointer (some ⟨g, 0, none⟩)) (hy : ev y = .agg z.cells) {o : Oper} (ho : o.op = .store 46 x y) :
    (execOp ev o).run Try.prog W = .ok .skip (W.setCells g 0 z.cells.toList) := by
  unfold execOp
  simp only [ho, hx, hy, Sem.run_bind, Result.andThen_ok, run_storeAt_mid W g 0 46 z.cells h.there (by rw [size8]; rfl) (arr_one .u32 z.l), Sem.run_pure]
set_option maxRecDepth 100000 in
set_option maxHeartbeats 400000 in
theorem dadd_nil (s : ByteArray) (w : World) : Calls Try.prog 16 #[.pointer none, .string s] w fun e w' => e = .returned (.int .i64 0) ∧ w = w' := by
  go_enter Try.func16, Try.ntmps16
  go_wp2
  go_ret
  exact ⟨rfl, rfl⟩
set_option maxRecDepth 100000 in
set_option maxHeartbeats 1000000 in
theorem dadd_calls (g : Nat) (x : V8) (r s : ByteArray) (n : Nat) (w : World) (h : DSt w g x r n) (hr : r.size ≤ 64) (hs : s.size ≤ 140737488355328) (hn : n ≤ 140737488355328) :
    Calls Try.prog 16 #[.pointer (some ⟨g, 0, none⟩), .string s] w fun e w' => e = .returned (.int .i64 (n + s.size : Nat)) ∧ DSt w' g (fd x (r ++ s) ((r ++ s).size / 64)) ((r ++ s).extract (64 * ((r ++ s).size / 64)) (r ++ s).size) (n + s.size : Nat) ∧ Bf w.heap.size g w w' := by
  have HD : Aside0 (DSt ((w.setCell ⟨g, 9, none⟩ (.int .i64 ((n + s.size : Nat) : Int))).setCell ⟨g, 8, none⟩ (.string (r ++ s))) g x (r ++ s) ((n + s.size : Nat) : Int)) := ⟨(h.set9 _).set8 _⟩
  have HF : Aside0 (Bf w.heap.size g w ((w.setCell ⟨g, 9, none⟩ (.int .i64 ((n + s.size : Nat) : Int))).setCell ⟨g, 8, none⟩ (.string (r ++ s)))) := ⟨((Bf.refl _ _ _).setCell _ _).setCell _ _⟩
  have HG := Aside0.mk h.lt
  have c8 := h.c8
  have c9 := h.c9
  have f8 := h.free 8
  have f9 := h.free 9
  have hw9 : IntKind.i64.wrap ((n : Int) + (s.size : Int)) = (n : Int) + (s.size : Int) := IntWalk.i64_in _ (by omega)
  have hsz : r.size + s.size ≤ 9223372036854775807 := by omega
  clear h
  go_enter Try.func16, Try.ntmps16
  go_wp2_with fail
  rw [show (n : Int) + (s.size : Int) = ((n + s.size : Nat) : Int) by omega]
  clear c8 c9 f8 f9 hw9 hsz
  have hT : (r ++ s).size ≤ 140737488355400 := by rw [ByteArray.size_append]; omega
  generalize (w.setCell ⟨g, 9, none⟩ (.int .i64 ((n + s.size : Nat) : Int))).setCell ⟨g, 8, none⟩ (.string (r ++ s)) = w1 at *
  generalize hN : ((n + s.size : Nat) : Int) = N at *
  generalize ht : r ++ s = t at *
  have HN := Lib.hid hN
  have Ht := Lib.hid ht
  clear hN ht
  go_loopg [] (t.size / 64) (fun m wr => ∃ k : Nat, k + m = t.size / 64 ∧ Aside0 (DSt wr g (fd x t k) (t.extract (64 * k) t.size) N) ∧ Aside0 (Bf w.heap.size g w wr))
  case atStart => exact ⟨0, by omega, ⟨by rw [Nat.mul_zero, ByteArray.extract_zero_size]; exact HD.out⟩, HF⟩
  case round =>
    clear HD HF
    obtain ⟨k, hk, HD, HF⟩ := hrel
    have hq : (t.extract (64 * k) t.size).size = t.size - 64 * k := by rw [ByteArray.size_extract]; omega
    have hx1 : Hid (64 * k + 64 ≤ t.size → bv (fd x t k) ((t.extract (64 * k) t.size).extract 0 64) = fd x t (k + 1)) := Lib.hid (by intro h; rw [fd, ByteArray.extract_extract]; congr 2; omega)
    have hq1 : Hid ((t.extract (64 * k) t.size).extract 64 (t.extract (64 * k) t.size).size = t.extract (64 * (k + 1)) t.size) := Lib.hid (by rw [hq, ByteArray.extract_extract]; congr 1 <;> omega)
    have c8 := HD.out.c8
    have c9 := HD.out.c9
    have HR : Hid (t.extract (64 * k) t.size = t.extract (64 * (t.size / 64)) t.size ∧ fd x t k = fd x t (t.size / 64) ∨ 64 ≤ (t.extract (64 * k) t.size).size) := Lib.hid (by
      rcases Nat.lt_or_ge k (t.size / 64) with h | h
      · right; omega
      · left; have : k = t.size / 64 := by omega
        rw [this]; exact ⟨rfl, rfl⟩)
    generalize fd x t k = y at *
    generalize t.extract (64 * k) t.size = q at *
    have hqm : q.size ≤ 140737488355400 := by omega
    by_cases hge : 64 ≤ q.size
    · have hlt : k + 1 ≤ t.size / 64 := by omega
      clear hq
      go_wp2_with fail
      have hq64 : (q.extract 0 64).size = 64 := by rw [ByteArray.size_extract]; omega
      refine start_ (n := 23) (S := fun w' => w'.cell? ⟨g, 8, none⟩ = some (.string q) ∧ Aside0 (DSt w' g y q N) ∧ Aside0 (Bf w.heap.size g w w')) (ds := [19, 22]) #[false, false, false, false, false, false, false, false, false, false, false, false, false, false, false, false, false, false, false, false, false, false, false] (by kernel_rfl) rfl rfl ⟨DSt.c8 (w := wr.drew) HD.out, ⟨HD.out⟩, ⟨HF.out.trans ⟨rfl, rfl, rfl, Nat.le_refl _, fun _ _ _ => rfl⟩⟩⟩ (fun hHeld => ?_)
      refine pure_ (i := 0) (N := some 30) (v := ?_) (a' := ?_) #[true, false, false, false, false, false, false, false, false, false, false, false, false, false, false, false, false, false, false, false, false, false, false] rfl rfl (by kernel_rfl) (fun _ _ _ h => h) (Or.inl ⟨by rfl, ?_⟩) ?_ ?_
      rotate_left
      · intro w'
        go_simp
        with_reducible rfl
      rotate_left
      · simp only [Act.put, List.setIfInBounds_toArray, List.set_cons_zero, List.set_cons_succ]
        rfl
      refine pure_ (i := 1) (N := some 31) (v := ?_) (a' := ?_) #[true, true, false, false, false, false, false, false, false, false, false, false, false, false, false, false, false, false, false, false, false, false, false] rfl rfl (by kernel_rfl) (fun _ _ _ h => h) (Or.inl ⟨by rfl, ?_⟩) ?_ ?_
      rotate_left
      · intro w'
        go_simp
        with_reducible rfl
      rotate_left
      · simp only [Act.put, List.setIfInBounds_toArray, List.set_cons_zero, List.set_cons_succ]
        rfl
      refine pure_ (i := 2) (N := some 32) (v := ?_) (a' := ?_) #[true, true, true, false, false, false, false, false, false, false, false, false, false, false, false, false, false, false, false, false, false, false, false] rfl rfl (by kernel_rfl) (fun _ _ _ h => h) (Or.inl ⟨by rfl, ?_⟩) ?_ ?_
      rotate_left
      · intro w'
        go_simp
        with_reducible rfl
      rotate_left
      · simp only [Act.put, List.setIfInBounds_toArray, List.set_cons_zero, List.set_cons_succ]
        rfl
      refine pure_ (i := 3) (N := some 33) (v := ?_) (a' := ?_) #[true, true, true, true, false, false, false, false, false, false, false, false, false, false, false, false, false, false, false, false, false, false, false] rfl rfl (by kernel_rfl) (fun _ _ _ h => h) (Or.inl ⟨by rfl, ?_⟩) ?_ ?_
      rotate_left
      · intro w'
        go_simp
        with_reducible rfl
      rotate_left
      · simp only [Act.put, List.setIfInBounds_toArray, List.set_cons_zero, List.set_cons_succ]
        rfl
      refine pure_ (i := 4) (N := some 34) (v := ?_) (a' := ?_) #[true, true, true, true, true, false, false, false, false, false, false, false, false, false, false, false, false, false, false, false, false, false, false] rfl rfl (by kernel_rfl) (fun _ _ _ h => h) (Or.inl ⟨by rfl, ?_⟩) ?_ ?_
      rotate_left
      · intro w'
        go_simp
        with_reducible rfl
      rotate_left
      · simp only [Act.put, List.setIfInBounds_toArray, List.set_cons_zero, List.set_cons_succ]
        rfl
      refine pure_ (i := 6) (N := some 36) (v := ?_) (a' := ?_) #[true, true, true, true, true, false, true, false, false, false, false, false, false, false, false, false, false, false, false, false, false, false, false] rfl rfl (by kernel_rfl) (fun _ _ _ h => h) (Or.inl ⟨by rfl, ?_⟩) ?_ ?_
      rotate_left
      · intro w'
        go_simp
        with_reducible rfl
      rotate_left
      · simp only [Act.put, List.setIfInBounds_toArray, List.set_cons_zero, List.set_cons_succ]
        rfl
      refine pure_ (i := 7) (N := some 37) (v := ?_) (a' := ?_) #[true, true, true, true, true, false, true, true, false, false, false, false, false, false, false, false, false, false, false, false, false, false, false] rfl rfl (by kernel_rfl) (fun _ _ _ h => h) (Or.inl ⟨by rfl, ?_⟩) ?_ ?_
      rotate_left
      · intro w'
        go_simp
        with_reducible rfl
      rotate_left
      · simp only [Act.put, List.setIfInBounds_toArray, List.set_cons_zero, List.set_cons_succ]
        rfl
      refine pure_ (i := 8) (N := some 38) (v := ?_) (a' := ?_) #[true, true, true, true, true, false, true, true, true, false, false, false, false, false, false, false, false, false, false, false, false, false, false] rfl rfl (by kernel_rfl) (fun _ _ _ h => h) (Or.inl ⟨by rfl, ?_⟩) ?_ ?_
      rotate_left
      · intro w'
        go_simp
        with_reducible rfl
      rotate_left
      · simp only [Act.put, List.setIfInBounds_toArray, List.set_cons_zero, List.set_cons_succ]
        rfl
      refine pure_ (i := 12) (N := some 42) (v := ?_) (a' := ?_) #[true, true, true, true, true, false, true, true, true, false, false, false, true, false, false, false, false, false, false, false, false, false, false] rfl rfl (by kernel_rfl) (fun _ _ _ h => h) (Or.inl ⟨by rfl, ?_⟩) ?_ ?_
      rotate_left
      · intro w'
        go_simp
        with_reducible rfl
      rotate_left
      · simp only [Act.put, List.setIfInBounds_toArray, List.set_cons_zero, List.set_cons_succ]
        rfl
      refine pure_ (i := 13) (N := some 43) (v := ?_) (a' := ?_) #[true, true, true, true, true, false, true, true, true, false, false, false, true, true, false, false, false, false, false, false, false, false, false] rfl rfl (by kernel_rfl) (fun _ _ _ h => h) (Or.inl ⟨by rfl, ?_⟩) ?_ ?_
      rotate_left
      · intro w'
        go_simp
        with_reducible rfl
      rotate_left
      · simp only [Act.put, List.setIfInBounds_toArray, List.set_cons_zero, List.set_cons_succ]
        rfl
      refine pure_ (i := 14) (N := some 44) (v := ?_) (a' := ?_) #[true, true, true, true, true, false, true, true, true, false, false, false, true, true, true, false, false, false, false, false, false, false, false] rfl rfl (by kernel_rfl) (fun _ _ _ h => h) (Or.inl ⟨by rfl, ?_⟩) ?_ ?_
      rotate_left
      · intro w'
        go_simp
        with_reducible rfl
      rotate_left
      · simp only [Act.put, List.setIfInBounds_toArray, List.set_cons_zero, List.set_cons_succ]
        rfl
      refine take_ (i := 5) (N := some 35) (v := ?_) (a' := ?_) #[true, true, true, true, true, true, true, true, true, false, false, false, true, true, true, false, false, false, false, false, false, false, false] rfl rfl (by kernel_rfl) (fun _ _ _ h => h) (Or.inl ⟨by rfl, ?_⟩) hHeld ?_ ?_
      rotate_left
      · rintro w' ⟨s0, s1, s2⟩
        refine load8_run _ (.tmp 34) s1.out ?_ ?_ <;> rfl
      rotate_left
      · simp only [Act.put, List.setIfInBounds_toArray, List.set_cons_zero, List.set_cons_succ]
        rfl
      refine take_ (i := 9) (N := some 39) (v := ?_) (a' := ?_) #[true, true, true, true, true, true, true, true, true, true, false, false, true, true, true, false, false, false, false, false, false, false, false] rfl rfl (by kernel_rfl) (fun _ _ _ h => h) (Or.inl ⟨by rfl, ?_⟩) hHeld ?_ ?_
      rotate_left
      · rintro w' ⟨s0, s1, s2⟩
        go_simp
        with_reducible rfl
      rotate_left
      · simp only [Act.put, List.setIfInBounds_toArray, List.set_cons_zero, List.set_cons_succ]
        rfl
      refine pure_ (i := 10) (N := some 40) (v := ?_) (a' := ?_) #[true, true, true, true, true, true, true, true, true, true, true, false, true, true, true, false, false, false, false, false, false, false, false] rfl rfl (by kernel_rfl) (fun _ _ _ h => h) (Or.inl ⟨by rfl, ?_⟩) ?_ ?_
      rotate_left
      · intro w'
        go_simp
        with_reducible rfl
      rotate_left
      · simp only [Act.put, List.setIfInBounds_toArray, List.set_cons_zero, List.set_cons_succ]
        rfl
      refine take_ (i := 15) (N := some 45) (v := ?_) (a' := ?_) #[true, true, true, true, true, true, true, true, true, true, true, false, true, true, true, true, false, false, false, false, false, false, false] rfl rfl (by kernel_rfl) (fun _ _ _ h => h) (Or.inl ⟨by rfl, ?_⟩) hHeld ?_ ?_
      rotate_left
      · rintro w' ⟨s0, s1, s2⟩
        go_simp
        with_reducible rfl
      rotate_left
      · simp only [Act.put, List.setIfInBounds_toArray, List.set_cons_zero, List.set_cons_succ]
        rfl
      refine pure_ (i := 16) (N := some 46) (v := ?_) (a' := ?_) #[true, true, true, true, true, true, true, true, true, true, true, false, true, true, true, true, true, false, false, false, false, false, false] rfl rfl (by kernel_rfl) (fun _ _ _ h => h) (Or.inl ⟨by rfl, ?_⟩) ?_ ?_
      rotate_left
      · intro w'
        go_simp
        with_reducible rfl
      rotate_left
      · simp only [Act.put, List.setIfInBounds_toArray, List.set_cons_zero, List.set_cons_succ]
        rfl
      refine one_ (i := 11) (N := some 41) #[true, true, true, true, true, true, true, true, true, true, true, true, true, true, true, true, true, false, false, false, false, false, false] rfl rfl (by kernel_rfl) (by decide) (fun K hK => ?_)
      refine goes_ Try.func22 (by kernel_rfl) rfl #[.agg y.cells, .string (q.extract 0 64)] (by rfl) rfl rfl (by simp only [List.map_toArray, List.map_cons, List.map_nil]; rfl) ?_
      with_reducible refine (block_any y _ hq64 _).mono ?_
      rintro e w3 ⟨rfl, hb⟩
      refine ⟨_, rfl, ?_⟩
      have HD3 := hHeld.2.1.out.keep hb
      have HF3 := hHeld.2.2.out.trans (Bf.of_below hb hHeld.2.2.out.size)
      refine hK.out _ _ ⟨HD3.c8, ⟨HD3⟩, ⟨HF3⟩⟩ (fun hHeld => ?_)
      clear hK K
      refine norm_ (a' := ?_) ?_ ?_
      rotate_left
      · show Act.put _ (some 41) _ = _
        simp only [Act.put, List.setIfInBounds_toArray, List.set_cons_zero, List.set_cons_succ]
        rfl
      refine pure_ (i := 17) (N := some 47) (v := ?_) (a' := ?_) #[true, true, true, true, true, true, true, true, true, true, true, true, true, true, true, true, true, true, false, false, false, false, false] rfl rfl (by kernel_rfl) (fun _ _ _ h => h) (Or.inl ⟨by rfl, ?_⟩) ?_ ?_
      rotate_left
      · intro w'
        go_simp
        with_reducible rfl
      rotate_left
      · simp only [Act.put, List.setIfInBounds_toArray, List.set_cons_zero, List.set_cons_succ]
        rfl
      refine pure_ (i := 18) (N := some 48) (v := ?_) (a' := ?_) #[true, true, true, true, true, true, true, true, true, true, true, true, true, true, true, true, true, true, true, false, false, false, false] rfl rfl (by kernel_rfl) (fun _ _ _ h => h) (Or.inl ⟨by rfl, ?_⟩) ?_ ?_
      rotate_left
      · intro w'
        go_simp
        with_reducible rfl
      rotate_left
      · simp only [Act.put, List.setIfInBounds_toArray, List.set_cons_zero, List.set_cons_succ]
        rfl
      refine last_ (i := 19) (N := none) #[true, true, true, true, true, true, true, true, true, true, true, true, true, true, true, true, true, true, true, true, false, false, false] rfl rfl (by kernel_rfl) (by decide) (fun K hK => ?_)
      refine skip_ (by rfl) rfl (store8_run _ (.tmp 48) (.tmp 41) hHeld.2.1.out (bv y (q.extract 0 64)) rfl rfl rfl) ?_
      have HD4 := hHeld.2.1.out.setAll (bv y (q.extract 0 64))
      have HF4 := hHeld.2.2.out.setCells 0 (bv y (q.extract 0 64)).cells.toList
      clear hHeld HD3 HF3 hb
      generalize w3.setCells g 0 (bv y (q.extract 0 64)).cells.toList = w4 at *
      have c84 := HD4.c8
      have f84 := HD4.free 8
      have HD5 := Aside0.mk HD4
      have HF5 := Aside0.mk HF4
      clear HD4 HF4
      refine hK.out _ _ ?_
      clear hK K
      refine pure_ (i := 20) (N := some 49) (v := ?_) (a' := ?_) #[true, true, true, true, true, true, true, true, true, true, true, true, true, true, true, true, true, true, true, true, true, false, false] rfl rfl (by kernel_rfl) (fun _ _ _ h => h) (Or.inl ⟨by rfl, ?_⟩) ?_ ?_
      rotate_left
      · intro w'
        go_simp
        with_reducible rfl
      rotate_left
      · simp only [Act.put, List.setIfInBounds_toArray, List.set_cons_zero, List.set_cons_succ]
        rfl
      refine pure_ (i := 21) (N := some 50) (v := ?_) (a' := ?_) #[true, true, true, true, true, true, true, true, true, true, true, true, true, true, true, true, true, true, true, true, true, true, false] rfl rfl (by kernel_rfl) (fun _ _ _ h => h) (Or.inl ⟨by rfl, ?_⟩) ?_ ?_
      rotate_left
      · intro w'
        go_simp
        with_reducible rfl
      rotate_left
      · simp only [Act.put, List.setIfInBounds_toArray, List.set_cons_zero, List.set_cons_succ]
        rfl
      refine last_ (i := 22) (N := none) #[true, true, true, true, true, true, true, true, true, true, true, true, true, true, true, true, true, true, true, true, true, true, true] rfl rfl (by kernel_rfl) (by decide) (fun K hK => ?_)
      refine skip_ (w1 := ?_) (by rfl) rfl ?_ ?_
      rotate_left
      · go_simp
        rfl
      refine hK.out _ _ ?_
      clear hK K
      refine done_ (by kernel_rfl) ?_

      go_wp2_with fail
      obtain ⟨m, rfl⟩ : ∃ m, gk = m + 1 := ⟨gk - 1, by omega⟩
      go_roundg m
      case measure => omega
      case rel =>
        have h1 := HD5.out.set8 (q.extract 64 q.size)
        have h2 := HF5.out.setCell 8 (.string (q.extract 64 q.size))
        have e1 := hx1.out (by omega)
        have e2 := hq1.out
        refine ⟨k + 1, by omega, ⟨?_⟩, ⟨h2⟩⟩
        rw [← e1, ← e2]
        exact h1
    · go_wp2_with fail
      go_ret
      rcases HR.out with ⟨h1, h2⟩ | h1
      · have h3 := HD.out
        rw [h1, h2, ← Ht.out, ← HN.out] at h3
        exact ⟨by rw [HN.out]; rfl, h3, HF.out⟩
      · exact absurd h1 hge
end Go.Proofs.Ytaobnbmpeplefaa
