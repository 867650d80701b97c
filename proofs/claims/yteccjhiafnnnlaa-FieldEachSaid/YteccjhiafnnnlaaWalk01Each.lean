/- FieldEach: 255 powers in a row are all that there are, each once. -/
import Derived.Test.YteccjhiafnnnlaaWalk01
import Derived.Lib.Hide
namespace Go.Proofs.Yteccjhiafnnnlaa
open Go.RowKit Q Go.Proofs.YteccjhiafnnnlaaW.PrintWords Go.Proofs.YteccjhiafnnnlaaW.PrintLast Go.Proofs.YteccjhiafnnnlaaW.PrintMore
def arrB (xs : List Bool) : Array Value := (xs.map Value.bool).toArray
theorem arrB_set (xs : List Bool) (i : Nat) (v : Bool) : (arrB xs).setIfInBounds i (.bool v) = arrB (xs.set i v) := by
  simp [arrB, List.map_set]
theorem arrB_get (xs : List Bool) (i : Nat) (v : Bool) (h : xs[i]? = some v) : (arrB xs)[i]? = some (.bool v) := by
  simp [arrB, h]
attribute [local go_sem] arrB_set
def zsB (n : Nat) : List Bool := List.replicate n false
theorem hmkB (w : World) : (Instr.makeSlice 36 (.int .i64 256) (.int .i64 256)).run Try.prog w = .ok (.slice (some ⟨w.heap.size, 0, none⟩) 256 256) (w.alloc (.cells (arrB (zsB 256)) 4)) := by kernel_rfl
def nth (n : Int) (k : Nat) : Nat := pw (ix (n + (k : Int))).toNat
def seenL (n : Int) : Nat → List Bool
  | 0 => zsB 256
  | k + 1 => (seenL n k).set (nth n k) true
theorem seenL_len (n : Int) (k : Nat) : (seenL n k).length = 256 := by
  induction k with
  | zero => rw [seenL]; exact List.length_replicate
  | succ k ih => rw [seenL, List.length_set, ih]
theorem ix_lt (n : Int) : (ix n).toNat < 255 := by unfold ix; omega
theorem nth_pos (n : Int) (k : Nat) : 1 ≤ nth n k := pw_pos (ix_lt _)
theorem nth_le (n : Int) (k : Nat) : nth n k ≤ 255 := pw_le (ix_lt _)
theorem nth_ne (n : Int) (j k : Nat) (h : j < k) (hk : k < 255) : nth n j ≠ nth n k := by
  intro e
  have := pw_inj (ix_lt _) (ix_lt _) e
  unfold ix at this
  omega
theorem seenL_get (n : Int) (p k : Nat) (hp : p ≤ 255) (hno : ∀ j, j < k → nth n j ≠ p) : (seenL n k)[p]? = some false := by
  induction k with
  | zero =>
    rw [seenL, zsB, List.getElem?_replicate, if_pos (by omega)]
  | succ k ih =>
    rw [seenL, List.getElem?_set, if_neg (hno k (by omega))]
    exact ih (fun j hj => hno j (by omega))
set_option maxRecDepth 100000 in
set_option maxHeartbeats 400000 in
theorem fieldEach_walk (a0 : Int) (w : World) (_hq0 : (Lit.int .i64 a0).wf = true) : Calls Try.prog 9 #[.int .i64 a0] w fun e w' => e = .returned (.bool true) ∧ Below w.heap.size w w' := by
  clear _hq0
  by_cases h0 : a0 < -1152921504606846976
  · go_enter Try.func9, Try.ntmps9
    go_wp2_with fail
    refine (live_calls _).mono ?_
    rintro e w1 ⟨rfl, b1⟩
    go_wp2_with fail
    go_ret
    exact ⟨rfl, b1⟩
  by_cases h1 : 1152921504606846976 < a0
  · go_enter Try.func9, Try.ntmps9
    go_wp2_with fail
    refine (live_calls _).mono ?_
    rintro e w1 ⟨rfl, b1⟩
    go_wp2_with fail
    go_ret
    exact ⟨rfl, b1⟩
  have hm := hmkB
  have h0' : -1152921504606846976 ≤ a0 := by omega
  have h1' : a0 ≤ 1152921504606846976 := by omega
  clear h0 h1
  go_enter Try.func9, Try.ntmps9
  go_wp2_with fail
  refine (fnew_calls _).mono ?_
  rintro e w1 ⟨g, rfl, I, _, b1⟩
  have I1 := Lib.hid I
  clear I
  go_wp2_with fail
  go_loopw [5, 6] (fun n _ wr => ∃ k : Nat, k ≤ 255 ∧ n = .int .i64 k ∧ wr = w1.alloc (.cells (arrB (seenL a0 k)) 4)) (fun n _ _ => 255 - (intOf n).toNat)
  case atStart => exact ⟨0, by omega, rfl, rfl⟩
  case round =>
    obtain ⟨k, hk, rfl, rfl⟩ := hrel
    have I2 := Lib.hid (I1.out.below (below_alloc (Below.refl w1.heap.size w1) (.cells (arrB (seenL a0 k)) 4)))
    by_cases hlt : k < 255
    · have i1 : IntKind.i64.wrap (a0 + (k : Int)) = a0 + (k : Int) := IntWalk.i64_in _ (by omega)
      have hp0 := nth_pos a0 k
      have hp1 := nth_le a0 k
      have hc := arrB_get _ _ _ (seenL_get a0 (nth a0 k) k hp1 (fun j hj => nth_ne a0 j k hj hlt))
      have hS : Hid (arrB ((seenL a0 k).set (nth a0 k) true) = arrB (seenL a0 (k + 1))) := Lib.hid rfl
      have HP := Lib.hid (show pw (ix (a0 + (k : Int))).toNat = nth a0 k from rfl)
      generalize nth a0 k = p at hp0 hp1 hc hS HP
      have hp2 : ((p : Int) == 0) = false := by rw [beq_eq_false_iff_ne]; omega
      go_wp2_with fail
      refine (power_is g _ _ _ I2.out HP.out).mono ?_
      rintro e w' ⟨rfl, rfl⟩
      go_wp2_with fail
      go_roundw
      case rel => exact ⟨k + 1, by omega, by go_num, by rw [← hS.out]⟩
      case measure => simp [intOf]; omega
    · obtain rfl : k = 255 := by omega
      have i1 : IntKind.i64.wrap (a0 + 255) = a0 + 255 := IntWalk.i64_in _ (by omega)
      have HP := Lib.hid (show pw (ix (a0 + 255)).toNat = pw (ix a0).toNat by
        have e : ix (a0 + 255) = ix a0 := by unfold ix; omega
        rw [e])
      go_wp2_with fail
      refine (power_is g _ _ _ I2.out HP.out).mono ?_
      rintro e w' ⟨rfl, rfl⟩
      go_wp2_with fail
      refine (power_is g _ _ _ I2.out rfl).mono ?_
      rintro e w' ⟨rfl, rfl⟩
      go_wp2_with fail
      refine (live_calls _).mono ?_
      rintro e w2 ⟨rfl, b2⟩
      go_wp2_with fail
      go_ret
      exact ⟨rfl, below2 (below_alloc b1 _) b2⟩
end Go.Proofs.Yteccjhiafnnnlaa
