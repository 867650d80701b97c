/- PackCut: its walk, over the contracts of the program's pack package. -/
import Derived.Test.YtamjiofhfoedgaaQx2
import Derived.Test.YtamjiofhfoedgaaPackFn
import Derived.Test.YtamjiofhfoedgaaLive05
import Derived.WalkSpells
import Derived.Lib.Hide
import Derived.WalkLawsBesides
namespace Go.Proofs.Ytamjiofhfoedgaa
open Go.RowKit Q Go.Proofs.YtamjiofhfoedgaaW.PrintWords Go.Proofs.YtamjiofhfoedgaaW.PrintLast
theorem nil_Number (w : World) : Calls Try.prog 16 #[.pointer none] w fun e w' => e = .returned (.int .i64 0) ∧ w = w' := by
  go_enter Try.func16, Try.ntmps16
  go_wp2
  go_ret
  exact ⟨rfl, rfl⟩
theorem nil_Text (w : World) : Calls Try.prog 18 #[.pointer none] w fun e w' => e = .returned (.string ⟨#[]⟩) ∧ w = w' := by
  go_enter Try.func18, Try.ntmps18
  go_wp2
  go_ret
  exact ⟨rfl, rfl⟩
theorem nil_Rest (w : World) : Calls Try.prog 20 #[.pointer none] w fun e w' => e = .returned (.string ⟨#[]⟩) ∧ w = w' := by
  go_enter Try.func20, Try.ntmps20
  go_wp2
  go_ret
  exact ⟨rfl, rfl⟩
theorem nil_End (w : World) : Calls Try.prog 22 #[.pointer none] w fun e w' => e = .returned (.int .i64 1) ∧ w = w' := by
  go_enter Try.func22, Try.ntmps22
  go_wp2
  go_ret
  exact ⟨rfl, rfl⟩
theorem end3 : pack_Reader_End.f ⟨#[]⟩ 3 = some (3, ⟨#[]⟩, 3) := rd6
set_option maxRecDepth 100000 in
set_option maxHeartbeats 400000 in
theorem cut_out (n : Int) (s : ByteArray) (k : Int) (w : World) (h : n < 0 ∨ n > 72057594037927935 ∨ (s.size : Int) > 1000 ∨ k < 0) :
    Calls Try.prog 7 #[.int .i64 n, .string s, .int .i64 k] w fun e w' => e = .returned (.bool true) ∧ Below w.heap.size w w' := by
  by_cases h1 : n < 0
  · go_enter Try.func7, Try.ntmps7
    go_wp2_with (go_at_call 10; refine (live_calls _).mono ?_; rintro e w' ⟨rfl, hb⟩)
    go_ret
    exact ⟨rfl, hb⟩
  · have h1' : 0 ≤ n := by omega
    by_cases h2 : n > 72057594037927935
    · go_enter Try.func7, Try.ntmps7
      go_wp2_with (go_at_call 10; refine (live_calls _).mono ?_; rintro e w' ⟨rfl, hb⟩)
      go_ret
      exact ⟨rfl, hb⟩
    · have h2' : n ≤ 72057594037927935 := by omega
      by_cases h3 : (s.size : Int) > 1000
      · go_enter Try.func7, Try.ntmps7
        go_wp2_with (go_at_call 10; refine (live_calls _).mono ?_; rintro e w' ⟨rfl, hb⟩)
        go_ret
        exact ⟨rfl, hb⟩
      · have h3' : (s.size : Int) ≤ 1000 := by omega
        have h4 : k < 0 := by omega
        go_enter Try.func7, Try.ntmps7
        go_wp2_with (go_at_call 10; refine (live_calls _).mono ?_; rintro e w' ⟨rfl, hb⟩)
        go_ret
        exact ⟨rfl, hb⟩
set_option maxRecDepth 100000 in
set_option maxHeartbeats 400000 in
theorem cut_xy (n k : Nat) (s X Y : ByteArray) (w : World) (h1 : n ≤ 72057594037927935) (h2 : s.size ≤ 1000) (hX : pack_Number.f 30 (n : Int) = some X) (hY : pack_Text.f 30 s = some Y)
    (hx : k < X.size) (hy : k < Y.size)
    (rx : k < X.size → pack_Reader_Number.f 30 (X.extract 0 k) 0 = some (0, ⟨#[]⟩, 3)) (ry : k < Y.size → pack_Reader_Text.f 30 (Y.extract 0 k) 0 = some (⟨#[]⟩, ⟨#[]⟩, 3)) :
    Calls Try.prog 7 #[.int .i64 (n : Int), .string s, .int .i64 (k : Int)] w fun e w' => e = .returned (.bool true) ∧ Below w.heap.size w w' := by
  have HX := Lib.hid hX
  have HY := Lib.hid hY
  clear hX hY
  have RX := Lib.hid (rx hx)
  have RY := Lib.hid (ry hy)
  clear rx ry
  go_enter Try.func7, Try.ntmps7
  go_wp2_with fail
  refine (pack_Number.calls 30 _ X _ HX.out).mono ?_
  rintro e w1 ⟨rfl, b1⟩
  go_wp2_with fail
  refine (pack_Text.calls 30 _ Y _ HY.out).mono ?_
  rintro e w2 ⟨rfl, b2⟩
  have B2 : Below w.heap.size w w2 := below_then b1 b1.size b2
  clear b1 b2
  go_wp2_with fail
  refine (pack_Read.calls _ _ _ w _ B2 rfl).mono ?_
  rintro e w3x ⟨gx, rfl, Ix, B3x, _⟩
  go_wp2_with fail
  refine (pack_Reader_Number.calls 30 gx _ _ _ _ _ w _ Ix B3x RX.out).mono ?_
  rintro e w4x ⟨rfl, Jx, B4x, _⟩
  go_wp2_with fail
  refine (pack_Reader_End.calls gx _ _ _ _ _ w _ Jx B4x end3).mono ?_
  rintro e w5x ⟨rfl, _, B5x, _⟩
  go_wp2_with fail
  refine (pack_Read.calls _ _ _ w _ B5x rfl).mono ?_
  rintro e w3y ⟨gy, rfl, Iy, B3y, _⟩
  go_wp2_with fail
  refine (pack_Reader_Text.calls 30 gy _ _ _ _ _ w _ Iy B3y RY.out).mono ?_
  rintro e w4y ⟨rfl, Jy, B4y, _⟩
  go_wp2_with fail
  refine (pack_Reader_End.calls gy _ _ _ _ _ w _ Jy B4y end3).mono ?_
  rintro e w5y ⟨rfl, _, B5y, _⟩
  go_wp2_with fail
  refine (nil_Number _).mono ?_
  rintro e w' ⟨rfl, rfl⟩
  go_wp2_with fail
  refine (nil_Text _).mono ?_
  rintro e w' ⟨rfl, rfl⟩
  go_wp2_with fail
  refine (nil_Rest _).mono ?_
  rintro e w' ⟨rfl, rfl⟩
  go_wp2_with fail
  refine (nil_End _).mono ?_
  rintro e w' ⟨rfl, rfl⟩
  go_wp2_with fail
  refine (live_calls _).mono ?_
  rintro e wl ⟨rfl, bl⟩
  go_wp2_with fail
  go_ret
  exact ⟨rfl, below_then B5y B5y.size bl⟩
set_option maxRecDepth 100000 in
set_option maxHeartbeats 400000 in
theorem cut_xn (n k : Nat) (s X Y : ByteArray) (w : World) (h1 : n ≤ 72057594037927935) (h2 : s.size ≤ 1000) (hX : pack_Number.f 30 (n : Int) = some X) (hY : pack_Text.f 30 s = some Y)
    (hx : k < X.size) (hy : Y.size ≤ k)
    (rx : k < X.size → pack_Reader_Number.f 30 (X.extract 0 k) 0 = some (0, ⟨#[]⟩, 3)) (_ry : k < Y.size → pack_Reader_Text.f 30 (Y.extract 0 k) 0 = some (⟨#[]⟩, ⟨#[]⟩, 3)) :
    Calls Try.prog 7 #[.int .i64 (n : Int), .string s, .int .i64 (k : Int)] w fun e w' => e = .returned (.bool true) ∧ Below w.heap.size w w' := by
  have HX := Lib.hid hX
  have HY := Lib.hid hY
  clear hX hY
  have RX := Lib.hid (rx hx)
  clear rx _ry
  go_enter Try.func7, Try.ntmps7
  go_wp2_with fail
  refine (pack_Number.calls 30 _ X _ HX.out).mono ?_
  rintro e w1 ⟨rfl, b1⟩
  go_wp2_with fail
  refine (pack_Text.calls 30 _ Y _ HY.out).mono ?_
  rintro e w2 ⟨rfl, b2⟩
  have B2 : Below w.heap.size w w2 := below_then b1 b1.size b2
  clear b1 b2
  go_wp2_with fail
  refine (pack_Read.calls _ _ _ w _ B2 rfl).mono ?_
  rintro e w3x ⟨gx, rfl, Ix, B3x, _⟩
  go_wp2_with fail
  refine (pack_Reader_Number.calls 30 gx _ _ _ _ _ w _ Ix B3x RX.out).mono ?_
  rintro e w4x ⟨rfl, Jx, B4x, _⟩
  go_wp2_with fail
  refine (pack_Reader_End.calls gx _ _ _ _ _ w _ Jx B4x end3).mono ?_
  rintro e w5x ⟨rfl, _, B5x, _⟩
  go_wp2_with fail
  refine (nil_Number _).mono ?_
  rintro e w' ⟨rfl, rfl⟩
  go_wp2_with fail
  refine (nil_Text _).mono ?_
  rintro e w' ⟨rfl, rfl⟩
  go_wp2_with fail
  refine (nil_Rest _).mono ?_
  rintro e w' ⟨rfl, rfl⟩
  go_wp2_with fail
  refine (nil_End _).mono ?_
  rintro e w' ⟨rfl, rfl⟩
  go_wp2_with fail
  refine (live_calls _).mono ?_
  rintro e wl ⟨rfl, bl⟩
  go_wp2_with fail
  go_ret
  exact ⟨rfl, below_then B5x B5x.size bl⟩
set_option maxRecDepth 100000 in
set_option maxHeartbeats 400000 in
theorem cut_ny (n k : Nat) (s X Y : ByteArray) (w : World) (h1 : n ≤ 72057594037927935) (h2 : s.size ≤ 1000) (hX : pack_Number.f 30 (n : Int) = some X) (hY : pack_Text.f 30 s = some Y)
    (hx : X.size ≤ k) (hy : k < Y.size)
    (_rx : k < X.size → pack_Reader_Number.f 30 (X.extract 0 k) 0 = some (0, ⟨#[]⟩, 3)) (ry : k < Y.size → pack_Reader_Text.f 30 (Y.extract 0 k) 0 = some (⟨#[]⟩, ⟨#[]⟩, 3)) :
    Calls Try.prog 7 #[.int .i64 (n : Int), .string s, .int .i64 (k : Int)] w fun e w' => e = .returned (.bool true) ∧ Below w.heap.size w w' := by
  have HX := Lib.hid hX
  have HY := Lib.hid hY
  clear hX hY
  have RY := Lib.hid (ry hy)
  clear _rx ry
  go_enter Try.func7, Try.ntmps7
  go_wp2_with fail
  refine (pack_Number.calls 30 _ X _ HX.out).mono ?_
  rintro e w1 ⟨rfl, b1⟩
  go_wp2_with fail
  refine (pack_Text.calls 30 _ Y _ HY.out).mono ?_
  rintro e w2 ⟨rfl, b2⟩
  have B2 : Below w.heap.size w w2 := below_then b1 b1.size b2
  clear b1 b2
  go_wp2_with fail
  refine (pack_Read.calls _ _ _ w _ B2 rfl).mono ?_
  rintro e w3y ⟨gy, rfl, Iy, B3y, _⟩
  go_wp2_with fail
  refine (pack_Reader_Text.calls 30 gy _ _ _ _ _ w _ Iy B3y RY.out).mono ?_
  rintro e w4y ⟨rfl, Jy, B4y, _⟩
  go_wp2_with fail
  refine (pack_Reader_End.calls gy _ _ _ _ _ w _ Jy B4y end3).mono ?_
  rintro e w5y ⟨rfl, _, B5y, _⟩
  go_wp2_with fail
  refine (nil_Number _).mono ?_
  rintro e w' ⟨rfl, rfl⟩
  go_wp2_with fail
  refine (nil_Text _).mono ?_
  rintro e w' ⟨rfl, rfl⟩
  go_wp2_with fail
  refine (nil_Rest _).mono ?_
  rintro e w' ⟨rfl, rfl⟩
  go_wp2_with fail
  refine (nil_End _).mono ?_
  rintro e w' ⟨rfl, rfl⟩
  go_wp2_with fail
  refine (live_calls _).mono ?_
  rintro e wl ⟨rfl, bl⟩
  go_wp2_with fail
  go_ret
  exact ⟨rfl, below_then B5y B5y.size bl⟩
set_option maxRecDepth 100000 in
set_option maxHeartbeats 400000 in
theorem cut_nn (n k : Nat) (s X Y : ByteArray) (w : World) (h1 : n ≤ 72057594037927935) (h2 : s.size ≤ 1000) (hX : pack_Number.f 30 (n : Int) = some X) (hY : pack_Text.f 30 s = some Y)
    (hx : X.size ≤ k) (hy : Y.size ≤ k)
    (_rx : k < X.size → pack_Reader_Number.f 30 (X.extract 0 k) 0 = some (0, ⟨#[]⟩, 3)) (_ry : k < Y.size → pack_Reader_Text.f 30 (Y.extract 0 k) 0 = some (⟨#[]⟩, ⟨#[]⟩, 3)) :
    Calls Try.prog 7 #[.int .i64 (n : Int), .string s, .int .i64 (k : Int)] w fun e w' => e = .returned (.bool true) ∧ Below w.heap.size w w' := by
  have HX := Lib.hid hX
  have HY := Lib.hid hY
  clear hX hY
  clear _rx _ry
  go_enter Try.func7, Try.ntmps7
  go_wp2_with fail
  refine (pack_Number.calls 30 _ X _ HX.out).mono ?_
  rintro e w1 ⟨rfl, b1⟩
  go_wp2_with fail
  refine (pack_Text.calls 30 _ Y _ HY.out).mono ?_
  rintro e w2 ⟨rfl, b2⟩
  have B2 : Below w.heap.size w w2 := below_then b1 b1.size b2
  clear b1 b2
  go_wp2_with fail
  refine (nil_Number _).mono ?_
  rintro e w' ⟨rfl, rfl⟩
  go_wp2_with fail
  refine (nil_Text _).mono ?_
  rintro e w' ⟨rfl, rfl⟩
  go_wp2_with fail
  refine (nil_Rest _).mono ?_
  rintro e w' ⟨rfl, rfl⟩
  go_wp2_with fail
  refine (nil_End _).mono ?_
  rintro e w' ⟨rfl, rfl⟩
  go_wp2_with fail
  refine (live_calls _).mono ?_
  rintro e wl ⟨rfl, bl⟩
  go_wp2_with fail
  go_ret
  exact ⟨rfl, below_then B2 B2.size bl⟩
theorem packCut_walk (a0 : Int) (a1 : ByteArray) (a2 : Int) (w : World) (hq0 : (Lit.int .i64 a0).wf = true) (hq1 : a1.size ≤ 140737488351232) (hq2 : (Lit.int .i64 a2).wf = true) :
    Calls Try.prog 7 #[.int .i64 a0, .string a1, .int .i64 a2] w fun e w' => e = .returned (.bool true) ∧ Below w.heap.size w w' := by
  by_cases h : a0 < 0 ∨ a0 > 72057594037927935 ∨ (a1.size : Int) > 1000 ∨ a2 < 0
  · exact cut_out a0 a1 a2 w h
  · obtain ⟨n, rfl⟩ := Int.eq_ofNat_of_zero_le (a := a0) (by omega)
    obtain ⟨k, rfl⟩ := Int.eq_ofNat_of_zero_le (a := a2) (by omega)
    obtain ⟨l, rfl⟩ := exB a1
    have hl : l.length ≤ 1000 := by rw [B_size] at h; omega
    have hX := number_f n 30 (by omega) (by omega)
    have hY := text_f l 30 (by omega) (by omega)
    have h8 := enc_len8 (m := n) (by omega)
    have h8' := enc_len8 (m := l.length) (by omega)
    have ht : (txt l).length = (enc l.length).length + l.length := by unfold txt; rw [List.length_append]
    have rx : k < (B (enc n)).size → pack_Reader_Number.f 30 ((B (enc n)).extract 0 k) 0 = some (0, ⟨#[]⟩, 3) := by
      intro hk
      rw [B_size] at hk
      rw [B_extract, List.drop_zero, Nat.sub_zero, rnum_f _ _ (by rw [List.length_take]; omega) (by omega), tk_cut n 0 0 k (by omega) (by simp; omega) hk]
      rfl
    have ry : k < (B (txt l)).size → pack_Reader_Text.f 30 ((B (txt l)).extract 0 k) 0 = some (⟨#[]⟩, ⟨#[]⟩, 3) := by
      intro hk
      rw [B_size] at hk
      rw [B_extract, List.drop_zero, Nat.sub_zero, rtext_f _ _ (by rw [List.length_take]; omega) (by omega), tkT_cut l k (by omega) hk]
      rfl
    have e1 : n ≤ 72057594037927935 := by omega
    have e2 : (B l).size ≤ 1000 := by omega
    by_cases hx : k < (B (enc n)).size
    · by_cases hy : k < (B (txt l)).size
      · exact cut_xy n k _ _ _ w e1 e2 hX hY hx hy rx ry
      · exact cut_xn n k _ _ _ w e1 e2 hX hY hx (by omega) rx ry
    · by_cases hy : k < (B (txt l)).size
      · exact cut_ny n k _ _ _ w e1 e2 hX hY (by omega) hy rx ry
      · exact cut_nn n k _ _ _ w e1 e2 hX hY (by omega) (by omega) rx ry
end Go.Proofs.Ytamjiofhfoedgaa
