/- A state that holds a text: New, Add and Sum told over it; digest.Sum and the document's answer are one function. -/
import Derived.Test.YtaobnbmpeplefaaRefSum
namespace Go.Proofs.Ytaobnbmpeplefaa
open Go.RowKit Q Go.Proofs.YtaobnbmpeplefaaW.PrintWords Go.Proofs.YtaobnbmpeplefaaW.PrintLast Go.Proofs.YtaobnbmpeplefaaW.PrintMore
theorem fd_prefix (x : V8) (a b : List UInt8) (q : Nat) (ha : 64 * q ≤ a.length) : fd x (B (a ++ b)) q = fd x (B a) q := by
  induction q with
  | zero => rfl
  | succ q ih =>
    rw [fd, fd, ih (by omega), B_extract, B_extract]
    congr 2
    rw [List.drop_append_of_le_length (by omega), List.take_append_of_le_length (by rw [List.length_drop]; omega)]
theorem fd_append (x : V8) (a b : List UInt8) (q : Nat) (ha : a.length = 64 * q) (k : Nat) : fd x (B (a ++ b)) (q + k) = fd (fd x (B a) q) (B b) k := by
  induction k with
  | zero => exact fd_prefix x a b q (by omega)
  | succ k ih =>
    rw [← Nat.add_assoc, fd, fd, ih, B_extract, B_extract]
    congr 2
    rw [List.drop_append, ha, show 64 * (q + k) - 64 * q = 64 * k by omega, List.drop_of_length_le (by rw [ha]; omega), List.nil_append, show 64 * (q + k) + 64 - 64 * (q + k) = 64 by omega, show 64 * k + 64 - 64 * k = 64 by omega]
/-- The first whole blocks of a list, and what is behind them. -/
theorem parts (l : List UInt8) : ∃ a b : List UInt8, l = a ++ b ∧ a.length = 64 * (l.length / 64) ∧ b.length = l.length % 64 ∧ b = l.drop (64 * (l.length / 64)) ∧ a = l.take (64 * (l.length / 64)) :=
  ⟨l.take (64 * (l.length / 64)), l.drop (64 * (l.length / 64)), (List.take_append_drop _ _).symm, by rw [List.length_take]; omega, by rw [List.length_drop]; omega, rfl, rfl⟩
theorem rest_eq (l : List UInt8) : (B l).extract (64 * ((B l).size / 64)) (B l).size = B (l.drop (64 * (l.length / 64))) := by
  rw [B_size, B_extract, List.take_of_length_le (by rw [List.length_drop]; omega)]
theorem fd_more (x : V8) (l m : List UInt8) : fd (fd x (B l) (l.length / 64)) (B (l.drop (64 * (l.length / 64)) ++ m)) ((l.drop (64 * (l.length / 64)) ++ m).length / 64) = fd x (B (l ++ m)) ((l ++ m).length / 64) := by
  obtain ⟨a, b, hl, ha, hb, hbd, hat⟩ := parts l
  rw [← hbd]
  have e1 : fd x (B l) (l.length / 64) = fd x (B a) (l.length / 64) := by
    conv => lhs; rw [hl]
    rw [show (a ++ b).length = l.length by rw [← hl]]
    exact fd_prefix x a b _ (by omega)
  rw [e1, ← fd_append x a (b ++ m) _ ha, ← List.append_assoc, ← hl]
  congr 1
  simp only [List.length_append]
  omega
theorem fill0_B (l : List UInt8) : fill0 (B l) = l ++ [128] := rfl
theorem fill_more (l : List UInt8) (n : Nat) : fill2 (B l) n = l.take (64 * (l.length / 64)) ++ fill2 (B (l.drop (64 * (l.length / 64)))) n := by
  unfold fill2 fill1
  rw [fill0_B, fill0_B]
  have hp : pz (l ++ [128]).length = pz (l.drop (64 * (l.length / 64)) ++ [128]).length := by
    unfold pz
    simp only [List.length_append, List.length_drop, List.length_cons, List.length_nil]
    omega
  rw [hp]
  simp only [← List.append_assoc]
  rw [List.take_append_drop]
/-- The digest of a text. -/
def SHA (l : List UInt8) : List UInt8 := outk (fd H8 (B (fill2 (B l) l.length)) ((fill2 (B l) l.length).length / 64)).l 8
theorem sha_rest (l : List UInt8) : outk (fd (fd H8 (B l) (l.length / 64)) (B (fill2 (B (l.drop (64 * (l.length / 64)))) l.length)) ((fill2 (B (l.drop (64 * (l.length / 64)))) l.length).length / 64)).l 8 = SHA l := by
  obtain ⟨a, b, hl, ha, hb, hbd, hat⟩ := parts l
  unfold SHA
  rw [← hbd]
  have e1 : fd H8 (B l) (l.length / 64) = fd H8 (B a) (l.length / 64) := by
    conv => lhs; rw [hl]
    rw [show (a ++ b).length = l.length by rw [← hl]]
    exact fd_prefix H8 a b _ (by omega)
  have e2 := fill_more l l.length
  rw [← hbd, ← hat] at e2
  rw [e1, ← fd_append H8 a _ _ ha, e2]
  congr 3
  rw [List.length_append, ha]
  omega
theorem SHA_len (l : List UInt8) : (SHA l).length = 32 := outk_len _ 8
/-- A state that holds the text l. -/
def Is (w : World) (g : Nat) (l : List UInt8) : Prop := DSt w g (fd H8 (B l) (l.length / 64)) (B (l.drop (64 * (l.length / 64)))) l.length
theorem new_is (w : World) : Calls Try.prog 14 #[] w fun e w' => ∃ g, e = .returned (.pointer (some ⟨g, 0, none⟩)) ∧ Is w' g [] ∧ w.heap.size ≤ g ∧ Below w.heap.size w w' := dnew_calls w
theorem add_is (g : Nat) (l m : List UInt8) (w : World) (h : Is w g l) (hl : l.length ≤ 140737488355328) (hm : m.length ≤ 140737488355328) :
    Calls Try.prog 16 #[.pointer (some ⟨g, 0, none⟩), .string (B m)] w fun e w' => e = .returned (.int .i64 (l ++ m).length) ∧ Is w' g (l ++ m) ∧ Bf w.heap.size g w w' := by
  refine (dadd_calls g _ _ (B m) l.length w h (by rw [B_size, List.length_drop]; omega) (by rw [B_size]; exact hm) hl).mono ?_
  rintro e w' ⟨rfl, hD, hF⟩
  refine ⟨by rw [B_size, List.length_append], ?_, hF⟩
  unfold Is
  rw [B_append, B_size, B_size] at hD
  rw [← fd_more]
  have e2 : (B (l.drop (64 * (l.length / 64)) ++ m)).extract (64 * ((l.drop (64 * (l.length / 64)) ++ m).length / 64)) (l.drop (64 * (l.length / 64)) ++ m).length = B ((l ++ m).drop (64 * ((l.length + m.length) / 64))) := by
    have := rest_eq (l.drop (64 * (l.length / 64)) ++ m)
    rw [B_size] at this
    rw [this]
    obtain ⟨a, b, hl', ha, hb, hbd, hat⟩ := parts l
    rw [← hbd]
    have hlm : l ++ m = a ++ (b ++ m) := by rw [← List.append_assoc, ← hl']
    have hN : 64 * ((l.length + m.length) / 64) = a.length + 64 * ((b ++ m).length / 64) := by
      rw [List.length_append, ha]
      omega
    rw [hN, hlm, List.drop_length_add_append]
  rw [e2] at hD
  simp only [List.length_append] at hD ⊢
  exact hD
theorem sum_is (g : Nat) (l : List UInt8) (w : World) (h : Is w g l) (hl : l.length ≤ 140737488355328) :
    Calls Try.prog 15 #[.pointer (some ⟨g, 0, none⟩)] w fun e w' => e = .returned (.string (B (SHA l))) ∧ Below w.heap.size w w' := by
  refine (dsum_calls g _ _ l.length w h (by rw [B_size, List.length_drop]; omega) hl).mono ?_
  rintro e w' ⟨rfl, hB⟩
  refine ⟨?_, hB⟩
  rw [← sha_rest l]
  rfl
set_option maxRecDepth 100000 in
set_option maxHeartbeats 400000 in
theorem dsum_all (l : List UInt8) (hl : l.length ≤ 140737488355328) (w : World) : Calls Try.prog 10 #[.string (B l)] w fun e w' => e = .returned (.string (B (SHA l))) ∧ Below w.heap.size w w' := by
  generalize hbl : B l = s
  have HBL := Lib.hid hbl
  clear hbl
  go_enter Try.func10, Try.ntmps10
  go_wp2_with fail
  refine Calls.mono (new_is w) ?_
  rintro e w1 ⟨g, rfl, hI, hg, hB⟩
  have HI := Aside0.mk hI
  have HB := Aside0.mk hB
  clear hI hB
  go_wp2_with fail
  rw [← HBL.out]
  refine Calls.mono (add_is g [] l w1 HI.out (Nat.zero_le _) hl) ?_
  rintro e w2 ⟨rfl, hI, hF⟩
  have HI := Aside0.mk hI
  have HB := Aside0.mk (HB.out.trans (hF.below HB.out.size hg))
  clear hI hF
  go_wp2_with fail
  refine Calls.mono (sum_is g l w2 HI.out hl) ?_
  rintro e w3 ⟨rfl, hB3⟩
  have HB := Aside0.mk (below2 HB.out HB.out.size hB3)
  clear hB3
  go_wp2_with fail
  go_ret
  exact ⟨rfl, HB.out⟩
theorem refsum_all (l : List UInt8) (hl : l.length ≤ 17592186044416) (w : World) : Calls Try.prog 11 #[.string (B l)] w fun e w' => e = .returned (.string (B (SHA l))) ∧ Below w.heap.size w w' := by
  have h64 := fill2_64 (B l) (B l).size
  refine refsum_walk (B l) (by rw [B_size]; exact hl) (fill2 (B l) (B l).size).length ((fill2 (B l) (B l).size).length / 64) (fill2 (B l) (B l).size) rfl rfl h64 H8 rfl (SHA l) ?_ w
  rintro i rfl j rfl
  rw [B_size]
  rfl
end Go.Proofs.Ytaobnbmpeplefaa
