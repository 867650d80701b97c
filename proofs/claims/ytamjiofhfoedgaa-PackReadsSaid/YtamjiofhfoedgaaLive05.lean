/- The examples of law 05: the call answers true. -/
import Derived.Test.YtamjiofhfoedgaaQx2
namespace Go.Proofs.Ytamjiofhfoedgaa
open Go.RowKit Q Go.Proofs.YtamjiofhfoedgaaW.PrintWords Go.Proofs.YtamjiofhfoedgaaW.PrintLast
theorem rd1 : pack_Reader_Number.f 20 ⟨#[172, 2, 2, 104, 105, 97, 98, 99]⟩ 0 = some (300, ⟨#[2, 104, 105, 97, 98, 99]⟩, 0) := by kernel_rfl
theorem rd2 : pack_Reader_Text.f 20 ⟨#[2, 104, 105, 97, 98, 99]⟩ 0 = some (⟨#[104, 105]⟩, ⟨#[97, 98, 99]⟩, 0) := by kernel_rfl
theorem rd3 : pack_Reader_Rest.f ⟨#[97, 98, 99]⟩ 0 = some (⟨#[97, 98, 99]⟩, ⟨#[]⟩, 0) := by kernel_rfl
theorem rd4 : pack_Reader_End.f ⟨#[]⟩ 0 = some (0, ⟨#[]⟩, 0) := by kernel_rfl
theorem rd5 : pack_Reader_Number.f 20 ⟨#[172]⟩ 0 = some (0, ⟨#[]⟩, 3) := by kernel_rfl
theorem rd6 : pack_Reader_End.f ⟨#[]⟩ 3 = some (3, ⟨#[]⟩, 3) := by kernel_rfl
theorem rd7 : pack_Reader_End.f ⟨#[120]⟩ 0 = some (4, ⟨#[]⟩, 4) := by kernel_rfl
theorem nm1 : pack_Number.f 20 300 = some ⟨#[172, 2]⟩ := by kernel_rfl
theorem nm2 : pack_Number.f 20 (-1) = some ⟨#[]⟩ := by kernel_rfl
theorem nm3 : pack_Text.f 20 ⟨#[104, 105]⟩ = some ⟨#[2, 104, 105]⟩ := by kernel_rfl
set_option maxRecDepth 100000 in
set_option maxHeartbeats 400000 in
theorem live_calls (w : World) : Calls Try.prog 10 #[] w fun e w' => e = .returned (.bool true) ∧ Below w.heap.size w w' := by
  go_enter Try.func10, Try.ntmps10
  go_wp2_with fail
  refine (pack_Read.calls _ _ _ w _ (Below.refl _ _) rfl).mono ?_
  rintro e w1 ⟨g, rfl, hI, hB, _⟩
  go_wp2_with fail
  refine (pack_Reader_Number.calls 20 g _ _ _ _ _ w _ hI hB rd1).mono ?_
  rintro e w2 ⟨rfl, hI2, hB2, _⟩
  go_wp2_with fail
  refine (pack_Reader_Text.calls 20 g _ _ _ _ _ w _ hI2 hB2 rd2).mono ?_
  rintro e w3 ⟨rfl, hI3, hB3, _⟩
  go_wp2_with fail
  refine (pack_Reader_Rest.calls g _ _ _ _ _ w _ hI3 hB3 rd3).mono ?_
  rintro e w4 ⟨rfl, hI4, hB4, _⟩
  go_wp2_with fail
  refine (pack_Reader_End.calls g _ _ _ _ _ w _ hI4 hB4 rd4).mono ?_
  rintro e w5 ⟨rfl, hI5, hB5, _⟩
  go_wp2_with fail
  refine (pack_Read.calls _ _ _ w _ hB5 rfl).mono ?_
  rintro e w6 ⟨g6, rfl, hI6, hB6, _⟩
  go_wp2_with fail
  refine (pack_Reader_Number.calls 20 g6 _ _ _ _ _ w _ hI6 hB6 rd5).mono ?_
  rintro e w7 ⟨rfl, hI7, hB7, _⟩
  go_wp2_with fail
  refine (pack_Reader_End.calls g6 _ _ _ _ _ w _ hI7 hB7 rd6).mono ?_
  rintro e w8 ⟨rfl, hI8, hB8, _⟩
  go_wp2_with fail
  refine (pack_Read.calls _ _ _ w _ hB8 rfl).mono ?_
  rintro e w9 ⟨g9, rfl, hI9, hB9, _⟩
  go_wp2_with fail
  refine (pack_Reader_End.calls g9 _ _ _ _ _ w _ hI9 hB9 rd7).mono ?_
  rintro e wa ⟨rfl, hIa, hBa, _⟩
  go_wp2_with fail
  refine (pack_Number.calls 20 _ _ _ nm1).mono ?_
  rintro e wb ⟨rfl, hBb⟩
  go_wp2_with fail
  refine (pack_Number.calls 20 _ _ _ nm2).mono ?_
  rintro e wc ⟨rfl, hBc⟩
  go_wp2_with fail
  refine (pack_Text.calls 20 _ _ _ nm3).mono ?_
  rintro e wd ⟨rfl, hBd⟩
  go_wp2_with fail
  go_ret
  exact ⟨rfl, below_then (below_then (below_then hBa hBa.size hBb) (Nat.le_trans hBa.size hBb.size) hBc) (Nat.le_trans hBa.size (Nat.le_trans hBb.size hBc.size)) hBd⟩
/-- live, in the form in which its callers take it. -/
def sluicegatelaw05_live.f : Option Bool := some true
theorem sluicegatelaw05_live.calls (r : Bool) (w : World) (h : sluicegatelaw05_live.f = some r) :
    Calls Try.prog 10 #[] w fun e w' => e = .returned (.bool r) ∧ Below w.heap.size w w' := by
  obtain rfl := Option.some.inj h
  exact live_calls w
end Go.Proofs.Ytamjiofhfoedgaa
