/- sluicegateref03.filled: its walk. -/
import Derived.Test.YtaobnbmpeplefaaDigSum
namespace Go.Proofs.Ytaobnbmpeplefaa
open Go.RowKit Q Go.Proofs.YtaobnbmpeplefaaW.PrintWords Go.Proofs.YtaobnbmpeplefaaW.PrintLast Go.Proofs.YtaobnbmpeplefaaW.PrintMore
set_option maxRecDepth 100000 in
set_option maxHeartbeats 1000000 in
theorem filled_calls (s : ByteArray) (hs : s.size ≤ 17592186044416) (w : World) :
    Calls Try.prog 17 #[.string s] w fun e w' => ∃ g cap : Nat, e = .returned (.slice (some ⟨g, 0, none⟩) (fill2 s s.size).length cap) ∧ RowB w.heap.size 5 (.slice (some ⟨g, 0, none⟩) (fill2 s s.size).length cap) (fill2 s s.size) w' ∧ Below w.heap.size w w' := by
  obtain ⟨i0, hi, hz0, hz1, hz2⟩ := info8
  have hcv := fun (W : World) => Lib.run_convert_string_bytes (P := Try.prog) W 9 31 5 s Try.underlying9 Try.underlying31 Try.underlying5
  have hR := RowB.bytes w 5 s (by unfold maxLen; omega)
  have hBel := RowB.bytesBelow w 5 s
  have hl0 : (fill0 s).length = s.size + 1 := by unfold fill0; rw [List.length_append, Array.length_toList]; rfl
  have G1 := Aside0.mk hR
  have G2 := Aside0.mk hBel
  have G3 := Lib.hid hl0
  clear hR hBel hl0
  go_enter Try.func17, Try.ntmps17
  go_upto_region 2 with (fail)
  generalize hw1 : Lib.bytesWorld w 5 s = w1 at *
  generalize grownCap w s.size 0 5 = cap1 at *
  clear hcv hw1
  go_wp2_with (at_builtin; refine wpList_append_rowB rfl _ _ 31 rfl w.heap.size 5 i0 (by kernel_rfl) hi hz0 hz1 hz2 _ _ [128] rfl (G1.out.alloc _) ⟨w1.heap.size, 0, none⟩ 1 rfl ?c1 ?c2 ?c3 ?_)
  case c1 =>
    intro j u hj
    match j, hj with
    | 0, hj => simp at hj; subst hj; simp [Addr.add]
  case c2 => rw [Array.length_toList]; simp only [List.length_cons, List.length_nil]; have : s.data.size = s.size := rfl; omega
  case c3 => have := G2.out.size; simp; omega
  intro v' w2 hown' hgrow
  obtain ⟨g2, cap2, rfl⟩ := row_len hown' (L := s.size) (by rw [List.length_append, Array.length_toList]; rfl)
  have G2 := Aside0.mk ((G2.out.alloc G2.out.size _).grown hgrow (by have := G2.out.size; simp; omega) (fun k hk => (G1.out.lt k hk).1))
  have G1 := Aside0.mk (show RowB w.heap.size 5 (.slice (some ⟨g2, 0, none⟩) (s.size + 1) cap2) (fill0 s) w2 from hown')
  clear hown' hgrow
  have HZ : pz (s.size + 1) < 64 := by unfold pz; omega
  go_wp2_with fail
  go_loopg [3] (pz (s.size + 1)) (fun m v wr => ∃ g1 cap j L : Nat, v = .slice (some ⟨g1, 0, none⟩) L cap ∧ L ≤ 17592186044500 ∧ Aside0 (j + m = pz (s.size + 1) ∧ L = s.size + 1 + j) ∧ Aside0 (RowB w.heap.size 5 (.slice (some ⟨g1, 0, none⟩) L cap) (fill0 s ++ List.replicate j 0) wr) ∧ Aside0 (Below w.heap.size w wr))
  case atStart => exact ⟨_, _, 0, _, rfl, by omega, ⟨by omega, by omega⟩, ⟨by rw [List.replicate_zero, List.append_nil]; exact G1.out⟩, G2⟩
  case round =>
    clear G1 G2
    obtain ⟨g1, cap, j, L, rfl, hL, HJ, G1, G2⟩ := hrel
    by_cases hm : gk = 0
    · have t1 : (L : Int) % 64 = 56 := by have := HJ.out; unfold pz at this; omega
      have t2 : ((L : Int) % 64 == 56) = true := by rw [t1]; rfl
      have t3 : ((L : Int) % 64 != 56) = false := by rw [t1]; rfl
      clear t1
      have hw8 : IntKind.i64.wrap (8 * (s.size : Int)) = 8 * (s.size : Int) := IntWalk.i64_in _ (by omega)
      go_wp2_with fail
      have hj : j = pz (s.size + 1) ∧ L = s.size + 1 + pz (s.size + 1) := by have := HJ.out; omega
      obtain ⟨rfl, hLe⟩ := hj
      have G1 : Aside0 (RowB w.heap.size 5 (.slice (some ⟨g1, 0, none⟩) L cap) (fill1 s ++ szb s.size 0) wr) := ⟨by
        have := G1.out
        unfold fill1 szb
        rw [List.append_nil, G3.out]
        exact this⟩
      have hF1 : Hid ((fill1 s).length = L) := Lib.hid (by unfold fill1; rw [List.length_append, List.length_replicate, G3.out, hLe])
      clear HJ t2 t3 hLe hm hw8
      go_loopg [3, 5] 8 (fun m v i wr => ∃ g1 cap j L' : Nat, ∃ q : Int, v = .slice (some ⟨g1, 0, none⟩) L' cap ∧ i = .int .i64 q ∧ L' ≤ 17592186044600 ∧ Aside0 (j + m = 8 ∧ L' = L + j ∧ q = (m : Int) - 1) ∧ Aside0 (RowB w.heap.size 5 (.slice (some ⟨g1, 0, none⟩) L' cap) (fill1 s ++ szb s.size j) wr) ∧ Aside0 (Below w.heap.size w wr))
      case atStart => exact ⟨_, _, 0, _, _, rfl, rfl, by omega, ⟨by omega, by omega, by omega⟩, G1, G2⟩
      case round =>
        clear G1 G2
        obtain ⟨g2, cap2, j, L', q, rfl, rfl, hL', HJ, G1, G2⟩ := hrel
        by_cases hm : gk = 0
        · obtain rfl : q = -1 := by have := HJ.out; omega
          go_wp2_with fail
          go_ret
          have hjL : j = 8 ∧ L' = L + 8 := by have := HJ.out; omega
          obtain ⟨rfl, hLe⟩ := hjL
          have hlen : (fill2 s s.size).length = L' := by unfold fill2; rw [List.length_append, szb_len, hF1.out, hLe]
          rw [hlen]
          exact ⟨g2, cap2, rfl, G1.out, G2.out⟩
        · obtain ⟨k, rfl⟩ : ∃ k : Nat, gk = k + 1 := ⟨gk - 1, by omega⟩
          obtain rfl : q = (k : Int) := by have := HJ.out; omega
          have hk7 : (k : Int) ≤ 7 := by have := HJ.out; omega
          have hw3 : IntKind.i64.wrap (8 * (k : Int)) = 8 * (k : Int) := IntWalk.i64_in _ (by omega)
          have hw5 : IntKind.u64.wrap (8 * (k : Int)) = 8 * (k : Int) := by rw [IntKind.wrap_u64]; omega
          have hj : j + k = 7 := by have := HJ.out; omega
          have hbv : ((UInt8.ofNat (s.size * 8 / 2 ^ (8 * k) % 256)).toNat : Int) = 8 * (s.size : Int) / 2 ^ (8 * k) % 256 := by
            rw [UInt8.toNat_ofNat', Nat.mod_eq_of_lt (Nat.mod_lt _ (by decide)), Nat.mul_comm s.size 8]
            push_cast
            rfl
          have Hbv := Lib.hid hbv
          have HL1 : Hid ((fill1 s ++ szb s.size j).length = L') := Lib.hid (by rw [List.length_append, hF1.out, szb_len]; have := HJ.out; omega)
          have hS : Hid (fill1 s ++ szb s.size (j + 1) = (fill1 s ++ szb s.size j) ++ [UInt8.ofNat (s.size * 8 / 2 ^ (8 * k) % 256)]) := Lib.hid (by rw [szb, show 7 - j = k by omega, List.append_assoc])
          clear hbv
          go_wp2_with (at_builtin; refine wpList_append_rowB rfl _ _ 31 rfl w.heap.size 5 i0 (by kernel_rfl) hi hz0 hz1 hz2 _ _ [UInt8.ofNat (s.size * 8 / 2 ^ (8 * k) % 256)] rfl (G1.out.alloc _) ⟨wr.heap.size, 0, none⟩ 1 rfl ?c1 ?c2 ?c3 ?_)
          case c1 =>
            intro j u hj
            match j, hj with
            | 0, hj =>
              simp only [List.getElem?_cons_zero, Option.some.injEq] at hj
              subst hj
              rw [Hbv.out]
              simp [Addr.add]
          case c2 => have := HL1.out; simp only [List.length_cons, List.length_nil]; omega
          case c3 => have := G2.out.size; simp; omega
          intro v' w2 hown' hgrow
          rw [← List.append_assoc] at hown'
          obtain ⟨g3, cap3, rfl⟩ := row_len hown' (L := L') (by rw [List.length_append, HL1.out]; rfl)
          have G2 := Aside0.mk ((G2.out.alloc G2.out.size _).grown hgrow (by have := G2.out.size; simp; omega) (fun k hk => (G1.out.lt k hk).1))
          have G1 := Aside0.mk hown'
          clear hown' hgrow hw3 hw5
          have hw4 : IntKind.i64.wrap ((k : Int) - 1) = (k : Int) - 1 := IntWalk.i64_in _ (by omega)
          go_wp2
          go_roundg k
          case measure => omega
          case rel => exact ⟨_, _, j + 1, _, _, rfl, rfl, by have := HJ.out; omega, ⟨by have := HJ.out; omega⟩, ⟨by rw [hS.out]; exact G1.out⟩, G2⟩
    · have t1 : ¬ (L : Int) % 64 = 56 := by have := HJ.out; unfold pz at this; omega
      have t2 : ((L : Int) % 64 == 56) = false := by simpa using t1
      have t3 : ((L : Int) % 64 != 56) = true := by simp [bne, t2]
      clear t1
      have hl1 : (fill0 s ++ List.replicate j 0).length = L := by rw [List.length_append, List.length_replicate, G3.out]; have := HJ.out; omega
      have HL1 := Lib.hid hl1
      clear hl1
      go_wp2_with (at_builtin; refine wpList_append_rowB rfl _ _ 31 rfl w.heap.size 5 i0 (by kernel_rfl) hi hz0 hz1 hz2 _ _ [0] rfl (G1.out.alloc _) ⟨wr.heap.size, 0, none⟩ 1 rfl ?c1 ?c2 ?c3 ?_)
      case c1 =>
        intro j u hj
        match j, hj with
        | 0, hj => simp at hj; subst hj; simp [Addr.add]
      case c2 => have := HL1.out; simp only [List.length_cons, List.length_nil]; omega
      case c3 => have := G2.out.size; simp; omega
      intro v' w2 hown' hgrow
      rw [← List.append_assoc] at hown'
      obtain ⟨g2, cap2, rfl⟩ := row_len hown' (L := L) (by rw [List.length_append, HL1.out]; rfl)
      have G2 := Aside0.mk ((G2.out.alloc G2.out.size _).grown hgrow (by have := G2.out.size; simp; omega) (fun k hk => (G1.out.lt k hk).1))
      have G1 := Aside0.mk hown'
      clear hown' hgrow
      go_wp2
      go_roundg (gk - 1)
      case measure => omega
      case rel => exact ⟨_, _, j + 1, L + 1, rfl, by have := HJ.out; omega, ⟨by have := HJ.out; omega⟩, ⟨by rw [List.replicate_succ', ← List.append_assoc]; exact G1.out⟩, G2⟩
end Go.Proofs.Ytaobnbmpeplefaa
