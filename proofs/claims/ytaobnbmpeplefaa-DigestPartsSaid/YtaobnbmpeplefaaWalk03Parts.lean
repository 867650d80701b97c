/- The law DigestParts: its walk. -/
import Derived.Test.YtaobnbmpeplefaaLive03
namespace Go.Proofs.Ytaobnbmpeplefaa
open Go.RowKit Q Go.Proofs.YtaobnbmpeplefaaW.PrintWords Go.Proofs.YtaobnbmpeplefaaW.PrintLast Go.Proofs.YtaobnbmpeplefaaW.PrintMore
theorem str_at {w : World} {A : Option Addr} {l : List ByteArray} (h : Kd.C Kd.string w A l.length l) (k : Nat) (hk : k < l.length) : ∃ ad, A = some ad ∧ w.cell? (ad.add k) = some (.string (l.getD k ⟨#[]⟩)) := by
  obtain ⟨ad, hA, hc⟩ := h.2.2 (by omega)
  obtain ⟨cs, hl, hK, hcell⟩ := hc k l[k] (List.getElem?_eq_getElem hk)
  have hcs : cs = [.string l[k]] := hK
  have := hcell 0 (.string l[k]) (by rw [hcs]; rfl)
  have h1 : k * Kd.string.sz + 0 = k := by
    have : Kd.string.sz = 1 := rfl
    rw [this]; omega
  rw [h1] at this
  refine ⟨ad, hA, ?_⟩
  rw [this, List.getD_eq_getElem?_getD, List.getElem?_eq_getElem hk]
  rfl
theorem C_keep {w w' : World} {A : Option Addr} {n : Nat} {l : List ByteArray} (h : Kd.C Kd.string w A n l) (hb : Below w.heap.size w w') : Kd.C Kd.string w' A n l := Kd.C_below h hb
set_option maxRecDepth 100000 in
set_option maxHeartbeats 1000000 in
theorem digestParts_walk (A0 : Option Addr) (c0 : Nat) (l0 : List ByteArray) (w : World) (hr0 : Kd.C Kd.string w A0 l0.length l0) (_hc0 : l0.length ≤ c0) (_hq0 : ∀ x_ ∈ l0, x_.size ≤ maxLen) : Calls Try.prog 4 #[.slice A0 l0.length c0] w fun e w' => e = .returned (.bool true) ∧ Below w.heap.size w w' := by
  have HC := Aside0.mk hr0
  have hle := hr0.2.1
  clear hr0 _hq0
  by_cases hg : l0.length ≤ 12
  · go_enter Try.func4, Try.ntmps4
    go_wp2_with fail
    refine Calls.mono (new_is _) ?_
    rintro e w1 ⟨g, rfl, hI, hg1, hB⟩
    have HI := Aside0.mk hI
    have HG := Aside0.mk hg1
    have G2 := Aside0.mk hB
    clear hI hB hg1
    go_wp2_with fail
    refine Calls.mono (sum_is g [] w1 HI.out (Nat.zero_le _)) ?_
    rintro e w2 ⟨rfl, hB⟩
    have HI := Aside0.mk (DSt.keep HI.out hB)
    have G2 := Aside0.mk (below2 G2.out G2.out.size hB)
    clear hB
    go_wp2_with fail
    refine Calls.mono (refsum_all [] (Nat.zero_le _) w2) ?_
    rintro e w3 ⟨rfl, hB⟩
    have HI := Aside0.mk (DSt.keep HI.out hB)
    have G2 := Aside0.mk (below2 G2.out G2.out.size hB)
    clear hB
    go_wp2_with fail
    go_loopw [4, 5] (fun v i wr => ∃ (k : Nat) (m : List UInt8), k ≤ l0.length ∧ i = .int .i64 k ∧ v = .string (B m) ∧ m.length ≤ 100 * k ∧ Aside0 (Is wr g m) ∧ Aside0 (Below w.heap.size w wr)) (fun _ i _ => l0.length - (intOf i).toNat)
    case atStart => exact ⟨0, [], by omega, rfl, rfl, Nat.zero_le _, HI, G2⟩
    case round =>
      clear HI G2
      obtain ⟨k, m, hk, rfl, rfl, hm, HI, G2⟩ := hrel
      by_cases hlt : k < l0.length
      · obtain ⟨ad, rfl, hcl⟩ := str_at (C_keep HC.out G2.out) k hlt
        obtain ⟨xl, hxl⟩ := exB (l0.getD k ⟨#[]⟩)
        rw [hxl] at hcl
        have hsz : (B xl).size = xl.length := B_size xl
        have hms : (B m).size = m.length := B_size m
        have hcat : B m ++ B xl = B (m ++ xl) := B_append m xl
        have hlen : (m ++ xl).length = m.length + xl.length := List.length_append
        have hcsz : (B (m ++ xl)).size = m.length + xl.length := by rw [B_size, hlen]
        clear hxl
        by_cases hx : xl.length ≤ 100
        · have HCell := Aside0.mk hcl
          go_wp2_with fail
          refine Calls.mono (add_is g m xl wr HI.out (by omega) (by omega)) ?_
          rintro e w4 ⟨rfl, hI, hF⟩
          have HI := Aside0.mk hI
          have G2 := Aside0.mk (G2.out.trans (hF.below G2.out.size HG.out))
          clear hI hF hcl HCell
          have HL := Lib.hid hlen
          rw [hlen]
          go_wp2_with fail
          refine Calls.mono (sum_is g (m ++ xl) w4 HI.out (by rw [HL.out]; omega)) ?_
          rintro e w5 ⟨rfl, hB⟩
          have HI := Aside0.mk (DSt.keep HI.out hB)
          have G2 := Aside0.mk (below2 G2.out G2.out.size hB)
          clear hB
          go_wp2_with fail
          refine Calls.mono (refsum_all (m ++ xl) (by rw [HL.out]; omega) w5) ?_
          rintro e w6 ⟨rfl, hB⟩
          have HI := Aside0.mk (DSt.keep HI.out hB)
          have G2 := Aside0.mk (below2 G2.out G2.out.size hB)
          clear hB
          go_wp2_with fail
          go_roundw
          case measure => simp [intOf]; omega
          case rel => exact ⟨k + 1, m ++ xl, by omega, by go_num, rfl, by rw [HL.out]; omega, HI, G2⟩
        · go_wp2_with fail
          refine Calls.mono (live_calls wr) ?_
          rintro e w8 ⟨rfl, hB⟩
          have G2 := Aside0.mk (below2 G2.out G2.out.size hB)
          clear hB
          go_wp2_with fail
          go_ret
          exact ⟨rfl, G2.out⟩
      · obtain rfl : k = l0.length := by omega
        go_wp2_with fail
        refine Calls.mono (sum_is g m wr HI.out (by omega)) ?_
        rintro e w5 ⟨rfl, hB⟩
        have G2 := Aside0.mk (below2 G2.out G2.out.size hB)
        clear hB
        go_wp2_with fail
        refine Calls.mono (dsum_all m (by omega) w5) ?_
        rintro e w6 ⟨rfl, hB⟩
        have G2 := Aside0.mk (below2 G2.out G2.out.size hB)
        clear hB
        go_wp2_with fail
        refine Calls.mono (live_calls w6) ?_
        rintro e w8 ⟨rfl, hB⟩
        have G2 := Aside0.mk (below2 G2.out G2.out.size hB)
        clear hB
        go_wp2_with fail
        go_ret
        exact ⟨rfl, G2.out⟩
  · go_enter Try.func4, Try.ntmps4
    go_wp2_with fail
    refine Calls.mono (live_calls w) ?_
    rintro e w8 ⟨rfl, hB⟩
    go_wp2_with fail
    go_ret
    exact ⟨rfl, hB⟩
end Go.Proofs.Ytaobnbmpeplefaa
