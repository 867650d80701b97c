/- The examples of law 07: the call answers true. -/
import Derived.Test.YtoakibpgmjebeaaRefSecWrite
import Derived.Test.YtoakibpgmjebeaaRefSecRead
namespace Go.Proofs.Ytoakibpgmjebeaa
open Go.RowKit Q Go.Proofs.YtoakibpgmjebeaaW.PrintWords Go.Proofs.YtoakibpgmjebeaaW.PrintLast Go.Proofs.YtoakibpgmjebeaaW.PrintMore
def L0 : List UInt8 := [83, 71, 172, 2, 1, 8, 11, 47, 2, 104, 105]
def L1 : List UInt8 := [83, 71, 0, 0, 0, 0, 0, 0]
theorem secT0 : secT 300 1 8 11 47 [104, 105] = L0 := by
  unfold secT txt
  rw [enc_ge (n := 300) (by decide), enc_lt (n := 300 / 128) (by decide), enc_lt (n := 1) (by decide), enc_lt (n := 8) (by decide), enc_lt (n := 11) (by decide), enc_lt (n := 47) (by decide), enc_lt (by decide)]
  rfl
theorem secT1 : secT 0 0 0 0 0 [] = L1 := by
  unfold secT txt
  rw [enc_lt (n := 0) (by decide), enc_lt (by decide)]
  rfl
theorem fw1 : secW 300 1 8 11 47 ⟨#[104, 105]⟩ = (B (sealL L0), 0) := by
  have : secW 300 1 8 11 47 ⟨#[104, 105]⟩ = (B (sealL (secT 300 1 8 11 47 [104, 105])), 0) := if_pos (by decide)
  rw [this, secT0]
theorem fw2 : secW 0 0 9 0 0 ⟨#[]⟩ = (B [], 1) := if_neg (by decide)
theorem fw3 : secW 0 0 0 0 0 ⟨#[]⟩ = (B (sealL L1), 0) := by
  have : secW 0 0 0 0 0 ⟨#[]⟩ = (B (sealL (secT 0 0 0 0 0 [])), 0) := if_pos (by decide)
  rw [this, secT1]
theorem fr1 : secR (sealL L0) = (300, 1, 8, 11, 47, B [104, 105], 0) := by
  unfold secR
  rw [openL_seal]
  kernel_rfl
theorem fr2 : secR [97, 98, 99] = (0, 0, 0, 0, 0, B [], 3) := by kernel_rfl
theorem fr3 : secR (sealL [106, 117, 110, 107]) = (0, 0, 0, 0, 0, B [], 4) := by
  unfold secR
  rw [openL_seal]
  kernel_rfl
theorem ln0 : (B (sealL L0)).size = 15 := by rw [B_size, sealL_len]; rfl
theorem ln1 : (B (sealL L1)).size = 12 := by rw [B_size, sealL_len]; rfl
set_option maxRecDepth 100000 in
set_option maxHeartbeats 1000000 in
theorem mine_nil (s : ByteArray) (w : World) : Calls Try.prog 16 #[.string s, .agg #[.int .i64 0, .int .i64 0, .int .i64 0, .slice none 0 0], .int .i64 0] w fun e w' => e = .returned (.tuple #[.string ⟨#[]⟩, .int .i64 1]) ∧ Below w.heap.size w w' := by
  have hu36 := Try.underlying36
  have HB : Aside0 (Below w.heap.size w (w.alloc (.cells #[.int .i64 0, .int .i64 0, .int .i64 0, .slice none 0 0] 36))) := ⟨(Below.refl _ _).alloc (Nat.le_refl _) _⟩
  go_enter Try.func16, Try.ntmps16
  go_wp2_with fail
  go_ret2
  exact ⟨rfl, HB.out⟩
set_option maxRecDepth 100000 in
set_option maxHeartbeats 1000000 in
theorem live_calls (w : World) : Calls Try.prog 10 #[] w fun e w' => e = .returned (.bool true) ∧ Below w.heap.size w w' := by
  have hu25 := Try.underlying30
  have hu23 := Try.underlying23
  have H1 : Aside0 (Blk (w.alloc (.cells #[.int .i64 300, .int .i64 1, .int .i64 8, .int .i64 11, .int .i64 47, .string ⟨#[104, 105]⟩] 30)) w.heap.size #[.int .i64 300, .int .i64 1, .int .i64 8, .int .i64 11, .int .i64 47, .string ⟨#[104, 105]⟩] 30) := ⟨Blk.new w _ _⟩
  have HB : Aside0 (Below w.heap.size w (w.alloc (.cells #[.int .i64 300, .int .i64 1, .int .i64 8, .int .i64 11, .int .i64 47, .string ⟨#[104, 105]⟩] 30))) := ⟨(Below.refl _ _).alloc (Nat.le_refl _) _⟩
  go_enter Try.func10, Try.ntmps10
  go_wp2_with fail
  refine Calls.mono (write_calls 300 1 8 11 47 ⟨#[104, 105]⟩ _) ?_
  rintro e w1 ⟨rfl, b1⟩
  rw [fw1]
  replace H1 := Aside0.mk (H1.out.keep b1)
  replace HB := Aside0.mk (below2 HB.out HB.out.size b1)
  clear b1
  go_wp2_with fail
  refine Calls.mono (read_calls (sealL L0) (by rw [sealL_len]; decide) w1) ?_
  rintro e w2 ⟨rfl, b2⟩
  rw [fr1]
  replace H1 := Aside0.mk ((H1.out.keep b2).alloc (.cells #[.int .i64 300, .int .i64 1, .int .i64 8, .int .i64 11, .int .i64 47, .string (B [104, 105])] 30))
  replace HB := Aside0.mk (below_alloc (below2 HB.out HB.out.size b2) (.cells #[.int .i64 300, .int .i64 1, .int .i64 8, .int .i64 11, .int .i64 47, .string (B [104, 105])] 30))
  have H2 := Aside0.mk (Blk.new w2 #[.int .i64 300, .int .i64 1, .int .i64 8, .int .i64 11, .int .i64 47, .string (B [104, 105])] 30)
  clear b2
  go_wp2_with fail
  refine Calls.mono (write_calls 0 0 9 0 0 ⟨#[]⟩ _) ?_
  rintro e w3 ⟨rfl, b3⟩
  rw [fw2]
  replace H1 := Aside0.mk (H1.out.keep b3)
  replace H2 := Aside0.mk (H2.out.keep b3)
  replace HB := Aside0.mk (below2 HB.out HB.out.size b3)
  clear b3
  go_wp2_with fail
  refine Calls.mono (read_calls [97, 98, 99] (by decide) w3) ?_
  rintro e w4 ⟨rfl, b4⟩
  rw [fr2]
  replace H1 := Aside0.mk ((H1.out.keep b4).alloc (.cells #[.int .i64 0, .int .i64 0, .int .i64 0, .int .i64 0, .int .i64 0, .string (B [])] 30))
  replace H2 := Aside0.mk ((H2.out.keep b4).alloc (.cells #[.int .i64 0, .int .i64 0, .int .i64 0, .int .i64 0, .int .i64 0, .string (B [])] 30))
  replace HB := Aside0.mk (below_alloc (below2 HB.out HB.out.size b4) (.cells #[.int .i64 0, .int .i64 0, .int .i64 0, .int .i64 0, .int .i64 0, .string (B [])] 30))
  clear b4
  go_wp2_with fail
  refine Calls.mono (rseal_B [106, 117, 110, 107] _ (by decide)) ?_
  rintro e w5 ⟨rfl, b5⟩
  replace H1 := Aside0.mk (H1.out.keep b5)
  replace H2 := Aside0.mk (H2.out.keep b5)
  replace HB := Aside0.mk (below2 HB.out HB.out.size b5)
  clear b5
  go_wp2_with fail
  refine Calls.mono (read_calls (sealL [106, 117, 110, 107]) (by rw [sealL_len]; decide) w5) ?_
  rintro e w6 ⟨rfl, b6⟩
  rw [fr3]
  replace H1 := Aside0.mk ((H1.out.keep b6).alloc (.cells #[.int .i64 0, .int .i64 0, .int .i64 0, .int .i64 0, .int .i64 0, .string (B [])] 30))
  replace H2 := Aside0.mk ((H2.out.keep b6).alloc (.cells #[.int .i64 0, .int .i64 0, .int .i64 0, .int .i64 0, .int .i64 0, .string (B [])] 30))
  replace HB := Aside0.mk (below_alloc (below2 HB.out HB.out.size b6) (.cells #[.int .i64 0, .int .i64 0, .int .i64 0, .int .i64 0, .int .i64 0, .string (B [])] 30))
  clear b6
  go_wp2_with fail
  refine Calls.mono (write_calls 0 0 0 0 0 ⟨#[]⟩ _) ?_
  rintro e w7 ⟨rfl, b7⟩
  rw [fw3]
  replace H1 := Aside0.mk (H1.out.keep b7)
  replace H2 := Aside0.mk (H2.out.keep b7)
  replace HB := Aside0.mk (below2 HB.out HB.out.size b7)
  clear b7
  go_wp2_with fail
  refine Calls.mono (mine_nil (B (sealL L0)) w7) ?_
  rintro e w8 ⟨rfl, b8⟩
  replace H1 := Aside0.mk (H1.out.keep b8)
  replace H2 := Aside0.mk (H2.out.keep b8)
  replace HB := Aside0.mk (below2 HB.out HB.out.size b8)
  clear b8
  obtain ⟨c0, c1, c2, c3, c4, c5⟩ := six H1.out
  obtain ⟨d0, d1, d2, d3, d4, d5⟩ := six H2.out
  have z0 := ln0
  have z1 := ln1
  have hq1 : ((B [104, 105]).toList == (⟨#[104, 105]⟩ : ByteArray).toList) = true := by decide +kernel
  have hq2 : (B [104, 105]).toList = (⟨#[104, 105]⟩ : ByteArray).toList := by decide +kernel
  go_wp2_with fail
  go_ret
  exact ⟨rfl, HB.out⟩
/-- live, in the form in which its callers take it. -/
def sluicegatelaw07_live.f : Option Bool := some true
theorem sluicegatelaw07_live.calls (r : Bool) (w : World) (h : sluicegatelaw07_live.f = some r) :
    Calls Try.prog 10 #[] w fun e w' => e = .returned (.bool r) ∧ Below w.heap.size w w' := by
  obtain rfl := Option.some.inj h
  exact live_calls w
end Go.Proofs.Ytoakibpgmjebeaa
