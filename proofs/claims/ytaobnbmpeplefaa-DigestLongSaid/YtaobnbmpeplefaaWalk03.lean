/- The laws DigestNil and DigestLong: their walks. -/
import Derived.Test.YtaobnbmpeplefaaLive03
import Derived.Laws.MakeOwn
namespace Go.Proofs.Ytaobnbmpeplefaa
open Go.RowKit Q Go.Proofs.YtaobnbmpeplefaaW.PrintWords Go.Proofs.YtaobnbmpeplefaaW.PrintLast Go.Proofs.YtaobnbmpeplefaaW.PrintMore
set_option maxRecDepth 100000 in
set_option maxHeartbeats 400000 in
theorem digestNil_walk (a0 : ByteArray) (w : World) (_hq0 : a0.size ≤ 140737488351232) : Calls Try.prog 7 #[.string a0] w fun e w' => e = .returned (.bool true) ∧ Below w.heap.size w w' := by
  go_enter Try.func7, Try.ntmps7
  go_wp2_with fail
  refine (dadd_nil _ _).mono ?_
  rintro e w1 ⟨rfl, rfl⟩
  go_wp2_with fail
  refine (dsum_nil _).mono ?_
  rintro e w1 ⟨rfl, rfl⟩
  go_wp2_with fail
  refine (live_calls _).mono ?_
  rintro e w1 ⟨rfl, b1⟩
  go_wp2_with fail
  go_ret
  exact ⟨rfl, b1⟩
theorem made8 (n : Nat) : madeCells (Value.int IntKind.u8 0).cells (n * 1) = arr .u8 (zs n) := by
  apply Array.ext
  · simp [madeCells, arr, zs]
  · intro i h1 h2
    have : i % 1 = 0 := Nat.mod_one i
    simp [madeCells, arr, zs, Value.cells, this]
theorem make8 (n : Nat) (hn : n ≤ 2000) (w : World) : (Instr.makeSlice 31 (.int .i64 (n : Int)) (.int .i64 (n : Int))).run Try.prog w = .ok (.slice (some ⟨w.heap.size, 0, none⟩) n n) (w.alloc (.cells (arr .u8 (zs n)) 5)) := by
  obtain ⟨i0, hi, hz0, hz1, hz2⟩ := info8
  have := run_make (P := Try.prog) w 31 5 i0 (.int .u8 0) Try.underlying31 hi hz0 .i64 .i64 (n : Int) (n : Int) (by omega) (Int.le_refl _) (by rw [hz2]; omega) (by omega)
  rw [hz1, show ((n : Int)).toNat = n by omega, made8] at this
  exact this
/-- Block g holds the bytes xs. -/
def Row8 (w : World) (g : Nat) (xs : List Int) : Prop := w.heap[g]? = some (.cells (arr .u8 xs) 5 (0, 0))
theorem Row8.cell {w : World} {g : Nat} {xs : List Int} (h : Row8 w g xs) (i : Nat) (hi : i < xs.length) : w.cell? ⟨g, i, none⟩ = some (.int .u8 (xs.getD i 0)) := by
  rw [Lib.cell_of_heap h, arr_get _ _ _ hi]
theorem Row8.frozen {w : World} {g : Nat} {xs : List Int} (h : Row8 w g xs) (i : Nat) : w.frozen? ⟨g, i, none⟩ = false := Lib.frozen_of_heap h i
theorem Row8.set {w : World} {g : Nat} {xs : List Int} (h : Row8 w g xs) (i : Nat) (v : Int) : Row8 (w.setCell ⟨g, i, none⟩ (.int .u8 v)) g (xs.set i v) := by
  have : w.heap[g]? = _ := h
  simp [Row8, World.setCell, Array.getElem?_modify, this, arr_set]
/-- n cells, the first k of them c. -/
def part (c : Int) (n k : Nat) : List Int := List.replicate k c ++ List.replicate (n - k) 0
theorem part_len (c : Int) (n k : Nat) (hk : k ≤ n) : (part c n k).length = n := by
  unfold part; rw [List.length_append, List.length_replicate, List.length_replicate]; omega
theorem part_set (c : Int) (n k : Nat) (hk : k < n) : (part c n k).set k c = part c n (k + 1) := by
  unfold part
  rw [List.set_append_right _ _ (by rw [List.length_replicate]; exact Nat.le_refl _), List.length_replicate, Nat.sub_self, show n - k = (n - (k + 1)) + 1 by omega, List.replicate_succ, List.set_cons_zero, List.replicate_succ', List.append_assoc]
  rfl
set_option maxRecDepth 100000 in
set_option maxHeartbeats 1000000 in
theorem digestLong_walk (a0 a1 a2 : Int) (w : World) (hq0 : (Lit.int .u8 a0).wf = true) (_hq1 : (Lit.int .i64 a1).wf = true) (_hq2 : (Lit.int .i64 a2).wf = true) : Calls Try.prog 5 #[.int .u8 a0, .int .i64 a1, .int .i64 a2] w fun e w' => e = .returned (.bool true) ∧ Below w.heap.size w w' := by
  have hc : 0 ≤ a0 ∧ a0 ≤ 255 := by
    simp [Lit.wf, IntKind.min, IntKind.max, IntKind.bits, IntKind.signed] at hq0
    omega
  by_cases hg : 0 ≤ a1 ∧ a1 ≤ 2000 ∧ 0 ≤ a2 ∧ a2 ≤ a1
  · obtain ⟨h1, h2, h3, h4⟩ := hg
    obtain ⟨n, rfl⟩ : ∃ n : Nat, a1 = (n : Int) := ⟨a1.toNat, by omega⟩
    obtain ⟨m, rfl⟩ : ∃ m : Nat, a2 = (m : Int) := ⟨a2.toNat, by omega⟩
    have hn : n ≤ 2000 := by omega
    have hmn : m ≤ n := by omega
    have hmk := make8 n hn
    have t1 : decide ((n : Int) < 0) = false := by simp
    have t3 : decide ((2000 : Int) < (n : Int)) = false := by simp; omega
    have t4 : decide ((m : Int) < 0) = false := by simp
    have t5 : decide (n < m) = false := by simp; omega
    obtain ⟨l, hl⟩ : ∃ l : List UInt8, l = List.replicate n (UInt8.ofNat a0.toNat) := ⟨_, rfl⟩
    have hll : l.length = n := by rw [hl, List.length_replicate]
    have hnums : part a0 n n = numsB l := by
      rw [hl]
      unfold part numsB
      rw [Nat.sub_self, List.replicate_zero, List.append_nil, List.map_replicate, UInt8.toNat_ofNat', Nat.mod_eq_of_lt (by omega)]
      congr 1
      omega
    have HNM := Lib.hid hnums
    have HLL := Lib.hid hll
    clear hl hll hnums
    go_enter Try.func5, Try.ntmps5
    go_wp2_with fail
    have G1 : Aside0 (Row8 (w.alloc (.cells (arr .u8 (zs n)) 5)) w.heap.size (part a0 n 0)) := ⟨by
      unfold part Row8
      rw [heap_alloc_new]
      rfl⟩
    have G2 : Aside0 (Below w.heap.size w (w.alloc (.cells (arr .u8 (zs n)) 5))) := ⟨below_alloc (Below.refl _ _) _⟩
    go_loopw [8] (fun i wr => ∃ k : Nat, k ≤ n ∧ i = .int .i64 k ∧ Aside0 (Row8 wr w.heap.size (part a0 n k)) ∧ Aside0 (Below w.heap.size w wr)) (fun i _ => n - (intOf i).toNat)
    case atStart => exact ⟨0, by omega, rfl, G1, G2⟩
    case round =>
      clear G1 G2
      obtain ⟨k, hk, rfl, G1, G2⟩ := hrel
      by_cases hlt : k < n
      · have hcl := G1.out.cell k (by rw [part_len _ _ _ hk]; exact hlt)
        have hfr := G1.out.frozen k
        have hS := Lib.hid (part_set a0 n k hlt)
        generalize (part a0 n k).getD k 0 = z0 at *
        go_wp2_with fail
        go_roundw
        case measure => simp [intOf]; omega
        case rel => exact ⟨k + 1, by omega, by go_num, ⟨by rw [← hS.out]; exact G1.out.set k a0⟩, ⟨G2.out.setCell (Nat.le_refl _) _⟩⟩
      · obtain rfl : k = n := by omega
        have hcv := run_string_bytes (P := Try.prog) wr 31 9 5 Try.underlying31 Try.underlying5 Try.underlying9 w.heap.size 0 k l (fun j x hx => by
          have hj : j < k := by
            have := (List.getElem?_eq_some_iff.1 hx).1
            rw [HLL.out] at this
            exact this
          rw [Nat.zero_add, G1.out.cell j (by rw [part_len _ _ _ (Nat.le_refl _)]; exact hj), HNM.out]
          unfold numsB
          rw [List.getD_eq_getElem?_getD, List.getElem?_map, hx]
          rfl)
        rw [HLL.out] at hcv
        have hsz : (⟨l.toArray⟩ : ByteArray).size = k := by
          show l.toArray.size = k
          rw [List.size_toArray]
          exact HLL.out
        have E1 : Hid ((⟨l.toArray⟩ : ByteArray).extract 0 m = B (l.take m)) := Lib.hid (by
          have := B_extract l 0 m
          rw [List.drop_zero, Nat.sub_zero] at this
          exact this)
        have E2 : Hid ((⟨l.toArray⟩ : ByteArray).extract m k = B (l.drop m)) := Lib.hid (by
          have := B_extract l m k
          rw [List.take_of_length_le (by rw [List.length_drop, HLL.out]; omega)] at this
          exact this)
        have E3 : Hid ((⟨l.toArray⟩ : ByteArray) = B l) := Lib.hid rfl
        clear hlt G1
        go_wp2_with fail
        refine Calls.mono (new_is _) ?_
        rintro e w1 ⟨g, rfl, hI, hg, hB⟩
        have HI := Aside0.mk hI
        have HG := Aside0.mk (Nat.le_trans G2.out.size hg)
        have G2 := Aside0.mk (below2 G2.out G2.out.size hB)
        clear hI hB hg hcv
        go_wp2_with fail
        rw [E1.out]
        refine Calls.mono (add_is g [] (l.take m) w1 HI.out (Nat.zero_le _) (by rw [List.length_take, HLL.out]; omega)) ?_
        rintro e w2 ⟨rfl, hI, hF⟩
        have HI := Aside0.mk hI
        have G2 := Aside0.mk (G2.out.trans (hF.below G2.out.size HG.out))
        clear hI hF
        go_wp2_with fail
        rw [E2.out]
        refine Calls.mono (add_is g ([] ++ l.take m) (l.drop m) w2 HI.out (by rw [List.nil_append, List.length_take, HLL.out]; omega) (by rw [List.length_drop, HLL.out]; omega)) ?_
        rintro e w3 ⟨rfl, hI, hF⟩
        rw [List.nil_append, List.take_append_drop] at hI
        have HI := Aside0.mk hI
        have G2 := Aside0.mk (G2.out.trans (hF.below G2.out.size HG.out))
        clear hI hF
        go_wp2_with fail
        rw [E3.out]
        refine Calls.mono (dsum_all l (by rw [HLL.out]; omega) w3) ?_
        rintro e w4 ⟨rfl, hB⟩
        have HI := Aside0.mk (HI.out.keep hB)
        have G2 := Aside0.mk (below2 G2.out G2.out.size hB)
        clear hB
        go_wp2_with fail
        refine Calls.mono (refsum_all l (by rw [HLL.out]; omega) w4) ?_
        rintro e w5 ⟨rfl, hB⟩
        have HI := Aside0.mk (DSt.keep HI.out hB)
        have G2 := Aside0.mk (below2 G2.out G2.out.size hB)
        clear hB
        go_wp2_with fail
        refine Calls.mono (sum_is g l w5 HI.out (by rw [HLL.out]; omega)) ?_
        rintro e w6 ⟨rfl, hB⟩
        have G2 := Aside0.mk (below2 G2.out G2.out.size hB)
        clear hB
        go_wp2_with fail
        refine Calls.mono (dsum_all l (by rw [HLL.out]; omega) w6) ?_
        rintro e w7 ⟨rfl, hB⟩
        have G2 := Aside0.mk (below2 G2.out G2.out.size hB)
        clear hB
        go_wp2_with fail
        refine Calls.mono (live_calls w7) ?_
        rintro e w8 ⟨rfl, hB⟩
        have G2 := Aside0.mk (below2 G2.out G2.out.size hB)
        clear hB
        go_wp2_with fail
        go_ret
        exact ⟨rfl, G2.out⟩
  · have hcases : a1 < 0 ∨ (¬ a1 < 0 ∧ 2000 < a1) ∨ (¬ a1 < 0 ∧ ¬ 2000 < a1 ∧ a2 < 0) ∨ (¬ a1 < 0 ∧ ¬ 2000 < a1 ∧ ¬ a2 < 0 ∧ a1 < a2) := by omega
    clear hg hq0 hc
    rcases hcases with h1 | ⟨h1, h2⟩ | ⟨h1, h2, h3⟩ | ⟨h1, h2, h3, h4⟩
    all_goals
      go_enter Try.func5, Try.ntmps5
      go_wp2_with fail
      refine Calls.mono (live_calls w) ?_
      rintro e w8 ⟨rfl, hB⟩
      go_wp2_with fail
      go_ret
      exact ⟨rfl, hB⟩
end Go.Proofs.Ytaobnbmpeplefaa
