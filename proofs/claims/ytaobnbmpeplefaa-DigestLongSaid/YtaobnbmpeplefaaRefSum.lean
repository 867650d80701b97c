/- sluicegateref03.Sum: its walk. -/
import Derived.Test.YtaobnbmpeplefaaRefBlock
namespace Go.Proofs.Ytaobnbmpeplefaa
open Go.RowKit Q Go.Proofs.YtaobnbmpeplefaaW.PrintWords Go.Proofs.YtaobnbmpeplefaaW.PrintLast Go.Proofs.YtaobnbmpeplefaaW.PrintMore
theorem app_run {P : Program} {W W' : World} {v' : Value} {t : TypeId} {v : Value} {ad : Addr} {n c : Nat} (ev : Operand → Value) (s x : Operand) {o : Oper} (ho : o.op = .call { callee := .builtin .append, args := #[s, x], argTypes := #[t, t] }) (hs : ev s = v) (hx : ev x = .slice (some ad) n c)
    (hr : (Builtin.append_ #[t, t] o.type #[v, .slice (some ad) n c]).run P W = .ok v' W') : (execOp ev o).run P W = .ok (.value v') W' := by
  unfold execOp
  simp only [ho, resolve, invoke, builtin, Sem.run_bind, Sem.run_pure, Result.andThen_ok, List.map_toArray, List.map_cons, List.map_nil, hs, hx, hr]
theorem be4_cells (xx : Int) (wn : World) : ∀ j x, (be4 xx)[j]? = some x → (wn.alloc (.cells #[.int .u8 (IntKind.u8.wrap (xx / 16777216)), .int .u8 (IntKind.u8.wrap (xx / 65536)), .int .u8 (IntKind.u8.wrap (xx / 256)), .int .u8 (IntKind.u8.wrap xx)] 5)).cell? ((⟨wn.heap.size, 0, none⟩ : Addr).add j) = some (.int .u8 (x.toNat : Int)) := by
  intro j z hz
  match j, hz with
  | 0, hz => simp only [be4, List.getElem?_cons_zero, Option.some.injEq] at hz; subst hz; rw [be_byte]; simp [Addr.add, IntKind.wrap_u8]
  | 1, hz => simp only [be4, List.getElem?_cons_zero, List.getElem?_cons_succ, Option.some.injEq] at hz; subst hz; rw [be_byte]; simp [Addr.add, IntKind.wrap_u8]
  | 2, hz => simp only [be4, List.getElem?_cons_zero, List.getElem?_cons_succ, Option.some.injEq] at hz; subst hz; rw [be_byte]; simp [Addr.add, IntKind.wrap_u8]
  | 3, hz => simp only [be4, List.getElem?_cons_zero, List.getElem?_cons_succ, Option.some.injEq] at hz; subst hz; rw [be_byte]; simp [Addr.add, IntKind.wrap_u8]
  | j + 4, hz => simp [be4] at hz
set_option maxRecDepth 100000 in
set_option maxHeartbeats 1000000 in
theorem refsum_walk (s : ByteArray) (hs : s.size ≤ 17592186044416) (L nb : Nat) (PL : List UInt8) (hPL : fill2 s s.size = PL) (hL : PL.length = L) (hnb : 64 * nb = L) (x0 : V8) (hx0 : x0 = H8) (R : List UInt8) (hR : ∀ i, i = nb → ∀ j, j = 8 → outk (fd x0 ⟨PL.toArray⟩ i).l j = R) (w : World) :
    Calls Try.prog 11 #[.string s] w fun e w' => e = .returned (.string ⟨R.toArray⟩) ∧ Below w.heap.size w w' := by
  obtain ⟨i0, hi, hz0, hz1, hz2⟩ := info8
  have hLb : L ≤ 17592186044600 := by
    have : (fill2 s s.size).length = L := by rw [hPL]; exact hL
    unfold fill2 fill1 fill0 at this
    simp only [List.length_append, List.length_replicate, szb_len, Array.length_toList, List.length_cons, List.length_nil] at this
    have h1 : s.data.size = s.size := rfl
    unfold pz at this
    omega
  have HR := Lib.hid hR
  have HX := Lib.hid hx0
  have hf := fun W => filled_calls s hs W
  rw [hPL, hL] at hf
  have HF := Lib.hid hf
  have HL := Lib.hid hL
  have HN := Lib.hid hnb
  clear hR hx0 hf hPL hL hnb hs
  go_enter Try.func11, Try.ntmps11
  go_wp2_with fail
  have H1 : W8 (w.alloc (.cells #[.int .u32 1779033703, .int .u32 3144134277, .int .u32 1013904242, .int .u32 2773480762, .int .u32 1359893119, .int .u32 2600822924, .int .u32 528734635, .int .u32 1541459225] 34)) w.heap.size H8 := W8.of H8 (Row.new w 34 H8.l)
  have H2 : Below w.heap.size w (w.alloc (.cells #[.int .u32 1779033703, .int .u32 3144134277, .int .u32 1013904242, .int .u32 2773480762, .int .u32 1359893119, .int .u32 2600822924, .int .u32 528734635, .int .u32 1541459225] 34)) := below_alloc (Below.refl _ _) _
  rw [← HX.out] at H1
  have H3 := Aside0.mk H1
  have H4 := Aside0.mk H2
  clear H1 H2
  refine Calls.mono (HF.out _) ?_
  rintro e w1 ⟨gb, cb, rfl, hRow, hB⟩
  have hcb : L ≤ cb ∨ L = 0 := by
    rcases hRow with ⟨h, _⟩ | ⟨g, cap, cur, fz, hv, _, _, _, h1, _⟩
    · cases h
    · simp only [Value.slice.injEq] at hv
      left; have := HL.out; omega
  have HV := Aside0.mk (H3.out.keep hB)
  have HB := Aside0.mk (below2 H4.out H4.out.size hB)
  have HP := Aside0.mk hRow
  clear H3 H4 hB hRow HF
  have HG : Aside0 (w.heap.size < w1.heap.size) := ⟨HV.out.lt⟩
  go_wp2_with fail
  go_loopw [3, 5] (fun v n wr => ∃ k gs p : Nat, k ≤ nb ∧ n = .int .i64 p ∧ p ≤ 17592186044600 ∧ v = .slice (some ⟨gs, 0, none⟩) 8 8 ∧ Aside0 (p = 64 * k) ∧ Aside0 (W8 wr gs (fd x0 ⟨PL.toArray⟩ k)) ∧ Aside0 (RowB w.heap.size 5 (.slice (some ⟨gb, 0, none⟩) L cb) PL wr) ∧ Aside0 (Below w.heap.size w wr)) (fun _ n _ => 64 * nb + 1 - (intOf n).toNat)
  case atStart => exact ⟨0, w.heap.size, 0, by omega, rfl, by omega, rfl, ⟨by omega⟩, HV, ⟨HP.out.raise (by simp)⟩, HB⟩
  case round =>
    clear HV HP HB
    obtain ⟨k, gs, p, hk, rfl, hpb, rfl, HPK, HV, HP, HB⟩ := hrel
    by_cases hlt : k < nb
    · have hlt2 : (p : Int) < (L : Int) := by have := HN.out; have := HPK.out; omega
      have hle2 : (p : Int) + 64 ≤ (L : Int) := by have := HN.out; have := HPK.out; omega
      have hle3 : (p : Int) + 64 ≤ (cb : Int) := by omega
      have hne : ¬ cb = p := by omega
      have hS : Hid (bv (fd x0 ⟨PL.toArray⟩ k) ((⟨PL.toArray⟩ : ByteArray).extract (64 * k) (64 * k + 64)) = fd x0 ⟨PL.toArray⟩ (k + 1)) := Lib.hid rfl
      have hchl : ((PL.drop (64 * k)).take 64).length = 64 := by
        rw [List.length_take, List.length_drop]
        have := HL.out
        have := HPK.out
        omega
      have hcx : ∀ (j : Nat) (z : UInt8), ((PL.drop (64 * k)).take 64)[j]? = some z → wr.cell? ⟨gb, p + j, none⟩ = some (.int .u8 (z.toNat : Int)) := by
        intro j z hz
        rw [List.getElem?_take] at hz
        split at hz
        · rw [List.getElem?_drop, ← HPK.out] at hz
          exact HP.out.cells (g := gb) rfl (p + j) z hz
        · cases hz
      have hchunk : (⟨((PL.drop (64 * k)).take 64).toArray⟩ : ByteArray) = (⟨PL.toArray⟩ : ByteArray).extract (64 * k) (64 * k + 64) := by
        have := B_extract PL (64 * k) (64 * k + 64)
        rw [Nat.add_sub_cancel_left] at this
        exact this.symm
      have hh := Lib.hid (refblock_calls gs gb p (cb - p) (fd x0 ⟨PL.toArray⟩ k) ((PL.drop (64 * k)).take 64) hchl (by omega) wr HV.out HV.out.lt hcx)
      rw [hchunk, hS.out] at hh
      clear hchl hcx hchunk hS
      generalize fd x0 ⟨PL.toArray⟩ k = y at *
      obtain ⟨y1, hy1⟩ : ∃ y1, y1 = fd x0 ⟨PL.toArray⟩ (k + 1) := ⟨_, rfl⟩
      rw [← hy1] at hh
      have hYk := Lib.hid hy1
      clear hy1
      have hw1 : IntKind.i64.wrap ((p : Int) + 64) = (p : Int) + 64 := IntWalk.i64_in _ (by omega)
      go_wp2_with fail
      refine Calls.mono hh.out ?_
      clear hh
      rintro e w2 ⟨g2, rfl, hV2, _, hB2⟩
      have HV := Aside0.mk hV2
      have HP := Aside0.mk (HP.out.below hB2)
      have HB := Aside0.mk (below2 HB.out HB.out.size hB2)
      clear hV2 hB2
      go_wp2_with fail
      go_roundw
      case measure => simp [intOf]; have := HPK.out; omega
      case rel => exact ⟨k + 1, g2, p + 64, by omega, by go_num, by omega, rfl, ⟨by have := HPK.out; omega⟩, ⟨by rw [← hYk.out]; exact HV.out⟩, HP, HB⟩
    · have hge : ¬ (p : Int) < (L : Int) := by have := HN.out; have := HPK.out; omega
      have HK := Lib.hid (HR.out k (by omega))
      clear hlt hk
      generalize fd x0 ⟨PL.toArray⟩ k = y at *
      have hgs := HV.out.lt
      have HO : Aside0 (RowB wr.heap.size 5 (.slice none 0 0) (outk y.l 0) wr) := ⟨.inl ⟨rfl, rfl⟩⟩
      have HQ : Aside0 (Below wr.heap.size wr wr) := ⟨Below.refl _ _⟩
      go_wp2_with fail
      have hbw : w.heap.size ≤ wr.heap.size := HB.out.size
      obtain ⟨wq, rfl⟩ : ∃ wo : World, wo = wr := ⟨_, rfl⟩
      obtain ⟨bb, hbb⟩ : ∃ bb : Nat, bb = wq.heap.size := ⟨_, rfl⟩
      have hbq : bb ≤ wq.heap.size := by omega
      rw [← hbb] at HO HQ hgs hbw
      go_loopw [6, 7] (fun v n wr => ∃ (j : Nat) (A : Option Addr) (m c : Nat), j ≤ 8 ∧ n = .int .i64 j ∧ v = .slice A m c ∧ Aside0 (RowB bb 5 (.slice A m c) (outk y.l j) wr) ∧ Aside0 (Below bb wq wr)) (fun _ n _ => 8 - (intOf n).toNat)
      case atStart => exact ⟨0, _, _, _, by omega, rfl, rfl, HO, HQ⟩
      case round =>
        clear HO HQ
        obtain ⟨j, A, m, c, hj, rfl, rfl, HO, HQ⟩ := hrel
        by_cases hlt : j < 8
        · have hcj := (HQ.out.cell (p := ⟨gs, j, none⟩) hgs).trans (HV.out.get j hlt)
          have HO2 : Hid (outk y.l (j + 1) = outk y.l j ++ be4 (y.l.getD j 0)) := Lib.hid rfl
          generalize y.l.getD j 0 = xx at *
          have hji : (j : Int) < 8 := by omega
          go_wp2_with fail
          refine start_ (n := 27) (S := fun w' => w'.cell? ⟨gs, j, none⟩ = some (.int .u32 xx) ∧ Aside0 (RowB bb 5 (.slice A m c) (outk y.l j) w') ∧ Aside0 (Below bb wq w')) (ds := [25]) #[false, false, false, false, false, false, false, false, false, false, false, false, false, false, false, false, false, false, false, false, false, false, false, false, false, false, false] (by kernel_rfl) rfl rfl ⟨hcj, ⟨HO.out.below (Below.drew (Below.refl _ _))⟩, ⟨Below.drew HQ.out⟩⟩ (fun hHeld => ?_)
          generalize wr.drew = wn at hHeld ⊢
          refine pure_ (i := 0) (N := some 28) (v := ?_) (a' := ?_) #[true, false, false, false, false, false, false, false, false, false, false, false, false, false, false, false, false, false, false, false, false, false, false, false, false, false, false] rfl rfl (by kernel_rfl) (fun _ _ _ h => h) (Or.inl ⟨by rfl, ?_⟩) ?_ ?_
          rotate_left
          · intro w'
            go_simp
            with_reducible rfl
          rotate_left
          · simp only [Act.put, List.setIfInBounds_toArray, List.set_cons_zero, List.set_cons_succ]
            rfl
          refine pure_ (i := 1) (N := some 29) (v := ?_) (a' := ?_) #[true, true, false, false, false, false, false, false, false, false, false, false, false, false, false, false, false, false, false, false, false, false, false, false, false, false, false] rfl rfl (by kernel_rfl) (fun _ _ _ h => h) (Or.inl ⟨by rfl, ?_⟩) ?_ ?_
          rotate_left
          · intro w'
            go_simp
            with_reducible rfl
          rotate_left
          · simp only [Act.put, List.setIfInBounds_toArray, List.set_cons_zero, List.set_cons_succ]
            rfl
          refine pure_ (i := 2) (N := some 30) (v := ?_) (a' := ?_) #[true, true, true, false, false, false, false, false, false, false, false, false, false, false, false, false, false, false, false, false, false, false, false, false, false, false, false] rfl rfl (by kernel_rfl) (fun _ _ _ h => h) (Or.inl ⟨by rfl, ?_⟩) ?_ ?_
          rotate_left
          · intro w'
            go_simp
            with_reducible rfl
          rotate_left
          · simp only [Act.put, List.setIfInBounds_toArray, List.set_cons_zero, List.set_cons_succ]
            rfl
          refine pure_ (i := 3) (N := some 31) (v := ?_) (a' := ?_) #[true, true, true, true, false, false, false, false, false, false, false, false, false, false, false, false, false, false, false, false, false, false, false, false, false, false, false] rfl rfl (by kernel_rfl) (fun _ _ _ h => h) (Or.inl ⟨by rfl, ?_⟩) ?_ ?_
          rotate_left
          · intro w'
            go_simp
            with_reducible rfl
          rotate_left
          · simp only [Act.put, List.setIfInBounds_toArray, List.set_cons_zero, List.set_cons_succ]
            rfl
          refine pure_ (i := 7) (N := some 35) (v := ?_) (a' := ?_) #[true, true, true, true, false, false, false, true, false, false, false, false, false, false, false, false, false, false, false, false, false, false, false, false, false, false, false] rfl rfl (by kernel_rfl) (fun _ _ _ h => h) (Or.inl ⟨by rfl, ?_⟩) ?_ ?_
          rotate_left
          · intro w'
            go_simp
            with_reducible rfl
          rotate_left
          · simp only [Act.put, List.setIfInBounds_toArray, List.set_cons_zero, List.set_cons_succ]
            rfl
          refine pure_ (i := 8) (N := some 36) (v := ?_) (a' := ?_) #[true, true, true, true, false, false, false, true, true, false, false, false, false, false, false, false, false, false, false, false, false, false, false, false, false, false, false] rfl rfl (by kernel_rfl) (fun _ _ _ h => h) (Or.inl ⟨by rfl, ?_⟩) ?_ ?_
          rotate_left
          · intro w'
            go_simp
            with_reducible rfl
          rotate_left
          · simp only [Act.put, List.setIfInBounds_toArray, List.set_cons_zero, List.set_cons_succ]
            rfl
          refine pure_ (i := 9) (N := some 37) (v := ?_) (a' := ?_) #[true, true, true, true, false, false, false, true, true, true, false, false, false, false, false, false, false, false, false, false, false, false, false, false, false, false, false] rfl rfl (by kernel_rfl) (fun _ _ _ h => h) (Or.inl ⟨by rfl, ?_⟩) ?_ ?_
          rotate_left
          · intro w'
            go_simp
            with_reducible rfl
          rotate_left
          · simp only [Act.put, List.setIfInBounds_toArray, List.set_cons_zero, List.set_cons_succ]
            rfl
          refine pure_ (i := 13) (N := some 41) (v := ?_) (a' := ?_) #[true, true, true, true, false, false, false, true, true, true, false, false, false, true, false, false, false, false, false, false, false, false, false, false, false, false, false] rfl rfl (by kernel_rfl) (fun _ _ _ h => h) (Or.inl ⟨by rfl, ?_⟩) ?_ ?_
          rotate_left
          · intro w'
            go_simp
            with_reducible rfl
          rotate_left
          · simp only [Act.put, List.setIfInBounds_toArray, List.set_cons_zero, List.set_cons_succ]
            rfl
          refine pure_ (i := 14) (N := some 42) (v := ?_) (a' := ?_) #[true, true, true, true, false, false, false, true, true, true, false, false, false, true, true, false, false, false, false, false, false, false, false, false, false, false, false] rfl rfl (by kernel_rfl) (fun _ _ _ h => h) (Or.inl ⟨by rfl, ?_⟩) ?_ ?_
          rotate_left
          · intro w'
            go_simp
            with_reducible rfl
          rotate_left
          · simp only [Act.put, List.setIfInBounds_toArray, List.set_cons_zero, List.set_cons_succ]
            rfl
          refine pure_ (i := 15) (N := some 43) (v := ?_) (a' := ?_) #[true, true, true, true, false, false, false, true, true, true, false, false, false, true, true, true, false, false, false, false, false, false, false, false, false, false, false] rfl rfl (by kernel_rfl) (fun _ _ _ h => h) (Or.inl ⟨by rfl, ?_⟩) ?_ ?_
          rotate_left
          · intro w'
            go_simp
            with_reducible rfl
          rotate_left
          · simp only [Act.put, List.setIfInBounds_toArray, List.set_cons_zero, List.set_cons_succ]
            rfl
          refine pure_ (i := 19) (N := some 47) (v := ?_) (a' := ?_) #[true, true, true, true, false, false, false, true, true, true, false, false, false, true, true, true, false, false, false, true, false, false, false, false, false, false, false] rfl rfl (by kernel_rfl) (fun _ _ _ h => h) (Or.inl ⟨by rfl, ?_⟩) ?_ ?_
          rotate_left
          · intro w'
            go_simp
            with_reducible rfl
          rotate_left
          · simp only [Act.put, List.setIfInBounds_toArray, List.set_cons_zero, List.set_cons_succ]
            rfl
          refine pure_ (i := 20) (N := some 48) (v := ?_) (a' := ?_) #[true, true, true, true, false, false, false, true, true, true, false, false, false, true, true, true, false, false, false, true, true, false, false, false, false, false, false] rfl rfl (by kernel_rfl) (fun _ _ _ h => h) (Or.inl ⟨by rfl, ?_⟩) ?_ ?_
          rotate_left
          · intro w'
            go_simp
            with_reducible rfl
          rotate_left
          · simp only [Act.put, List.setIfInBounds_toArray, List.set_cons_zero, List.set_cons_succ]
            rfl
          refine pure_ (i := 21) (N := some 49) (v := ?_) (a' := ?_) #[true, true, true, true, false, false, false, true, true, true, false, false, false, true, true, true, false, false, false, true, true, true, false, false, false, false, false] rfl rfl (by kernel_rfl) (fun _ _ _ h => h) (Or.inl ⟨by rfl, ?_⟩) ?_ ?_
          rotate_left
          · intro w'
            go_simp
            with_reducible rfl
          rotate_left
          · simp only [Act.put, List.setIfInBounds_toArray, List.set_cons_zero, List.set_cons_succ]
            rfl
          refine take_ (i := 4) (N := some 32) (v := ?_) (a' := ?_) #[true, true, true, true, true, false, false, true, true, true, false, false, false, true, true, true, false, false, false, true, true, true, false, false, false, false, false] rfl rfl (by kernel_rfl) (fun _ _ _ h => h) (Or.inl ⟨by rfl, ?_⟩) hHeld ?_ ?_
          rotate_left
          · rintro w' ⟨s0, s1, s2⟩
            go_simp
            with_reducible rfl
          rotate_left
          · simp only [Act.put, List.setIfInBounds_toArray, List.set_cons_zero, List.set_cons_succ]
            rfl
          refine pure_ (i := 5) (N := some 33) (v := ?_) (a' := ?_) #[true, true, true, true, true, true, false, true, true, true, false, false, false, true, true, true, false, false, false, true, true, true, false, false, false, false, false] rfl rfl (by kernel_rfl) (fun _ _ _ h => h) (Or.inl ⟨by rfl, ?_⟩) ?_ ?_
          rotate_left
          · intro w'
            go_simp
            with_reducible rfl
          rotate_left
          · simp only [Act.put, List.setIfInBounds_toArray, List.set_cons_zero, List.set_cons_succ]
            rfl
          refine pure_ (i := 6) (N := some 34) (v := ?_) (a' := ?_) #[true, true, true, true, true, true, true, true, true, true, false, false, false, true, true, true, false, false, false, true, true, true, false, false, false, false, false] rfl rfl (by kernel_rfl) (fun _ _ _ h => h) (Or.inl ⟨by rfl, ?_⟩) ?_ ?_
          rotate_left
          · intro w'
            go_simp
            with_reducible rfl
          rotate_left
          · simp only [Act.put, List.setIfInBounds_toArray, List.set_cons_zero, List.set_cons_succ]
            rfl
          refine take_ (i := 10) (N := some 38) (v := ?_) (a' := ?_) #[true, true, true, true, true, true, true, true, true, true, true, false, false, true, true, true, false, false, false, true, true, true, false, false, false, false, false] rfl rfl (by kernel_rfl) (fun _ _ _ h => h) (Or.inl ⟨by rfl, ?_⟩) hHeld ?_ ?_
          rotate_left
          · rintro w' ⟨s0, s1, s2⟩
            go_simp
            with_reducible rfl
          rotate_left
          · simp only [Act.put, List.setIfInBounds_toArray, List.set_cons_zero, List.set_cons_succ]
            rfl
          refine pure_ (i := 11) (N := some 39) (v := ?_) (a' := ?_) #[true, true, true, true, true, true, true, true, true, true, true, true, false, true, true, true, false, false, false, true, true, true, false, false, false, false, false] rfl rfl (by kernel_rfl) (fun _ _ _ h => h) (Or.inl ⟨by rfl, ?_⟩) ?_ ?_
          rotate_left
          · intro w'
            go_simp
            with_reducible rfl
          rotate_left
          · simp only [Act.put, List.setIfInBounds_toArray, List.set_cons_zero, List.set_cons_succ]
            rfl
          refine pure_ (i := 12) (N := some 40) (v := ?_) (a' := ?_) #[true, true, true, true, true, true, true, true, true, true, true, true, true, true, true, true, false, false, false, true, true, true, false, false, false, false, false] rfl rfl (by kernel_rfl) (fun _ _ _ h => h) (Or.inl ⟨by rfl, ?_⟩) ?_ ?_
          rotate_left
          · intro w'
            go_simp
            with_reducible rfl
          rotate_left
          · simp only [Act.put, List.setIfInBounds_toArray, List.set_cons_zero, List.set_cons_succ]
            rfl
          refine take_ (i := 16) (N := some 44) (v := ?_) (a' := ?_) #[true, true, true, true, true, true, true, true, true, true, true, true, true, true, true, true, true, false, false, true, true, true, false, false, false, false, false] rfl rfl (by kernel_rfl) (fun _ _ _ h => h) (Or.inl ⟨by rfl, ?_⟩) hHeld ?_ ?_
          rotate_left
          · rintro w' ⟨s0, s1, s2⟩
            go_simp
            with_reducible rfl
          rotate_left
          · simp only [Act.put, List.setIfInBounds_toArray, List.set_cons_zero, List.set_cons_succ]
            rfl
          refine pure_ (i := 17) (N := some 45) (v := ?_) (a' := ?_) #[true, true, true, true, true, true, true, true, true, true, true, true, true, true, true, true, true, true, false, true, true, true, false, false, false, false, false] rfl rfl (by kernel_rfl) (fun _ _ _ h => h) (Or.inl ⟨by rfl, ?_⟩) ?_ ?_
          rotate_left
          · intro w'
            go_simp
            with_reducible rfl
          rotate_left
          · simp only [Act.put, List.setIfInBounds_toArray, List.set_cons_zero, List.set_cons_succ]
            rfl
          refine pure_ (i := 18) (N := some 46) (v := ?_) (a' := ?_) #[true, true, true, true, true, true, true, true, true, true, true, true, true, true, true, true, true, true, true, true, true, true, false, false, false, false, false] rfl rfl (by kernel_rfl) (fun _ _ _ h => h) (Or.inl ⟨by rfl, ?_⟩) ?_ ?_
          rotate_left
          · intro w'
            go_simp
            with_reducible rfl
          rotate_left
          · simp only [Act.put, List.setIfInBounds_toArray, List.set_cons_zero, List.set_cons_succ]
            rfl
          refine take_ (i := 22) (N := some 50) (v := ?_) (a' := ?_) #[true, true, true, true, true, true, true, true, true, true, true, true, true, true, true, true, true, true, true, true, true, true, true, false, false, false, false] rfl rfl (by kernel_rfl) (fun _ _ _ h => h) (Or.inl ⟨by rfl, ?_⟩) hHeld ?_ ?_
          rotate_left
          · rintro w' ⟨s0, s1, s2⟩
            go_simp
            with_reducible rfl
          rotate_left
          · simp only [Act.put, List.setIfInBounds_toArray, List.set_cons_zero, List.set_cons_succ]
            rfl
          refine pure_ (i := 23) (N := some 51) (v := ?_) (a' := ?_) #[true, true, true, true, true, true, true, true, true, true, true, true, true, true, true, true, true, true, true, true, true, true, true, true, false, false, false] rfl rfl (by kernel_rfl) (fun _ _ _ h => h) (Or.inl ⟨by rfl, ?_⟩) ?_ ?_
          rotate_left
          · intro w'
            go_simp
            with_reducible rfl
          rotate_left
          · simp only [Act.put, List.setIfInBounds_toArray, List.set_cons_zero, List.set_cons_succ]
            rfl
          refine one_ (i := 24) (N := some 52) #[true, true, true, true, true, true, true, true, true, true, true, true, true, true, true, true, true, true, true, true, true, true, true, true, true, false, false] rfl rfl (by kernel_rfl) (by decide) (fun K hK => ?_)
          refine value_ (w1 := ?_) (v := ?_) (by rfl) rfl ?_ ?_
          rotate_left 2
          · go_simp
            constructor
            · rfl
            · rfl
          have hA : Below wn.heap.size wn (wn.alloc (.cells #[.int .u8 (IntKind.u8.wrap (xx / 16777216)), .int .u8 (IntKind.u8.wrap (xx / 65536)), .int .u8 (IntKind.u8.wrap (xx / 256)), .int .u8 (IntKind.u8.wrap xx)] 5)) := below_alloc (Below.refl _ _) _
          refine hK.out _ _ ⟨((hA.cell (Nat.lt_of_lt_of_le hgs (Nat.le_trans hbq hHeld.2.2.out.size))).trans hHeld.1), ⟨hHeld.2.1.out.below hA⟩, ⟨below2 hHeld.2.2.out (Nat.le_trans hbq hHeld.2.2.out.size) hA⟩⟩ (fun hHeld => ?_)
          clear hK K
          refine norm_ (a' := ?_) ?_ ?_
          rotate_left
          · show Act.put _ (some 52) _ = _
            simp only [Act.put, List.setIfInBounds_toArray, List.set_cons_zero, List.set_cons_succ]
            rfl
          refine last_ (i := 25) (N := some 53) #[true, true, true, true, true, true, true, true, true, true, true, true, true, true, true, true, true, true, true, true, true, true, true, true, true, true, false] rfl rfl (by kernel_rfl) (by decide) (fun K hK => ?_)
          obtain ⟨v2, w2, hr2, hO2, hg2⟩ := run_append_rowB (P := Try.prog) (wn.alloc (.cells #[.int .u8 (IntKind.u8.wrap (xx / 16777216)), .int .u8 (IntKind.u8.wrap (xx / 65536)), .int .u8 (IntKind.u8.wrap (xx / 256)), .int .u8 (IntKind.u8.wrap xx)] 5)) bb 31 31 5 i0 (by kernel_rfl) hi hz0 hz1 hz2 (.slice A m c) (outk y.l j) (be4 xx) hHeld.2.1.out ⟨wn.heap.size, 0, none⟩ 4 (be4_cells xx wn) (by rw [outk_len]; simp [be4]; omega) (Nat.le_trans hbq hHeld.2.2.out.size)
          have hQ2 := hHeld.2.2.out.grown hg2 (Nat.le_trans hbq hHeld.2.2.out.size) (fun k hk => (hHeld.2.1.out.lt k hk).1)
          refine value_ (v := v2) (w1 := w2) (by rfl) rfl (app_run _ (.tmp 28) (.tmp 52) rfl rfl rfl hr2) ?_
          refine hK.out _ _ ?_
          clear hK K
          refine norm_ (a' := ?_) ?_ ?_
          rotate_left
          · show Act.put _ (some 53) _ = _
            simp only [Act.put, List.setIfInBounds_toArray, List.set_cons_zero, List.set_cons_succ]
            rfl
          refine pure_ (i := 26) (N := some 6) (v := ?_) (a' := ?_) #[true, true, true, true, true, true, true, true, true, true, true, true, true, true, true, true, true, true, true, true, true, true, true, true, true, true, true] rfl rfl (by kernel_rfl) (fun _ _ _ h => h) (Or.inl ⟨by rfl, ?_⟩) ?_ ?_
          rotate_left
          · intro w'
            go_simp
            with_reducible rfl
          rotate_left
          · simp only [Act.put, List.setIfInBounds_toArray, List.set_cons_zero, List.set_cons_succ]
            rfl
          refine done_ (by kernel_rfl) ?_
          have HO := Aside0.mk hO2
          have HQ := Aside0.mk hQ2
          obtain ⟨g4, c4, rfl, _⟩ := hO2.ne (by simp [be4])
          clear hO2 hQ2 hr2 hg2 hA hHeld hcj
          go_wp2_with fail
          go_roundw
          case measure => simp [intOf]; omega
          case rel => exact ⟨j + 1, _, _, _, by omega, by go_num, rfl, ⟨by rw [HO2.out]; exact HO.out⟩, HQ⟩
        · have HJ := Lib.hid (show j = 8 by omega)
          have hjn : ¬ (j : Int) < 8 := by omega
          have hRj := HK.out j HJ.out
          have HRj := Lib.hid hRj
          have hO := HO.out
          rw [hRj] at hO
          clear hlt hj hRj HO
          have hR0 : R ≠ [] := by
            intro h0
            have := congrArg List.length HRj.out
            rw [outk_len, h0, HJ.out] at this
            cases this
          obtain ⟨g5, c5, hv5, _⟩ := hO.ne hR0
          simp only [Value.slice.injEq] at hv5
          obtain ⟨rfl, rfl, rfl⟩ := hv5
          have hcv := run_string_bytes (P := Try.prog) wr 31 9 5 Try.underlying31 Try.underlying5 Try.underlying9 g5 0 c R (fun j x hx => by rw [Nat.zero_add]; exact hO.cells (g := g5) rfl j x hx)
          have HF := Aside0.mk (HB.out.trans (HQ.out.mono hbw))
          clear hO
          go_wp2_with fail
          go_ret
          exact ⟨rfl, HF.out⟩
end Go.Proofs.Ytaobnbmpeplefaa
