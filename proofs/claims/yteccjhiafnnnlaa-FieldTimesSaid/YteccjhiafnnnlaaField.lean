/- The package field told as plain functions on tables of powers: walks of New, Power, Which, Times, Over. -/
import Derived.Test.YteccjhiafnnnlaaProg
import Derived.Test.YteccjhiafnnnlaaFieldTab
import Derived.WalkKit
import Derived.WalkSpells
import Derived.WalkLawsBesides
import Derived.Lib.Hide
import Derived.Outline
import Derived.IntWalk
import Derived.Deep.QuietTactic
import Derived.BigQuiet
import Derived.Laws.BitsLemmas
import Derived.Test.YteccjhiafnnnlaaWWords
namespace Go.Proofs.Yteccjhiafnnnlaa
open Go.RowKit Go.Proofs.YteccjhiafnnnlaaW.PrintWords
/-- A row of bytes, as cells. -/
def arr8 (xs : List Int) : Array Value := (xs.map (Value.int .u8)).toArray
theorem arr8_set (xs : List Int) (i : Nat) (v : Int) : (arr8 xs).setIfInBounds i (.int .u8 v) = arr8 (xs.set i v) := by
  simp [arr8, List.map_set]
theorem arr8_get (xs : List Int) (i : Nat) (_h : i < xs.length) : (arr8 xs)[i]? = some (.int .u8 (xs.getD i 0)) := by
  simp [arr8, _h, List.getD_eq_getElem?_getD]
def zs8 (n : Nat) : List Int := List.replicate n 0
theorem zeroT (w : World) : (zeroValue 41).run Try.prog w = .ok (.agg (arr8 (zs8 511))) w := by kernel_rfl
attribute [local go_sem] arr8_set
/-- The table behind k rounds. -/
def tab : Nat → List Int
  | 0 => zs8 511
  | k + 1 => ((tab k).set k (pwN k : Int)).set (255 + pwN k) (k : Int)
theorem tab_len (k : Nat) : (tab k).length = 511 := by
  induction k with
  | zero => rw [tab]; exact List.length_replicate
  | succ k ih => rw [tab, List.length_set, List.length_set, ih]
theorem powL_len : powL.length = 255 := by kernel_rfl
theorem tab_all : tab 255 = (powL ++ whL).map (fun n : Nat => (n : Int)) := by kernel_rfl
theorem tab_pw (n : Nat) (h : n < 255) : (tab 255).getD n 0 = (pw n : Int) := by
  rw [tab_all, List.map_append, List.getD_eq_getElem?_getD, List.getElem?_append_left (by rw [List.length_map, powL_len]; exact h)]
  unfold pw
  rw [List.getElem?_map, List.getD_eq_getElem?_getD]
  cases powL[n]? <;> rfl
theorem tab_wh (a : Nat) (_h : a < 256) : (tab 255).getD (255 + a) 0 = (wh a : Int) := by
  rw [tab_all, List.map_append, List.getD_eq_getElem?_getD, List.getElem?_append_right (by rw [List.length_map, powL_len]; omega)]
  unfold wh
  rw [List.getElem?_map, List.getD_eq_getElem?_getD]
  have : 255 + a - (List.map (fun n : Nat => (n : Int)) powL).length = a := by rw [List.length_map, powL_len]; omega
  rw [this]
  cases whL[a]? <;> rfl
/-- Block g holds the table. -/
def IsTab (W : World) (g : Nat) : Prop := (∀ n : Int, 0 ≤ n → n < 255 → W.cell? ⟨g, n.toNat, none⟩ = some (.int .u8 (pw n.toNat : Int))) ∧ (∀ a : Int, 0 ≤ a → a < 256 → W.cell? ⟨g, 255 + a.toNat, none⟩ = some (.int .u8 (wh a.toNat : Int))) ∧ g < W.heap.size
theorem IsTab.below {W W1 : World} {g : Nat} (h : IsTab W g) (hb : Below W.heap.size W W1) : IsTab W1 g :=
  ⟨fun n h0 h1 => (hb.cell (p := ⟨g, n.toNat, none⟩) h.2.2).trans (h.1 n h0 h1), fun a h0 h1 => (hb.cell (p := ⟨g, 255 + a.toNat, none⟩) h.2.2).trans (h.2.1 a h0 h1), Nat.lt_of_lt_of_le h.2.2 hb.size⟩
theorem dblInt (x : Nat) (hx : x ≤ 255) (h : 255 < 2 * x) : Go.bits .xor .i64 ((x : Int) + x) 285 = (dbl x : Int) := by
  unfold dbl
  rw [if_pos h]
  have h1 : (x : Int) + x = ((2 * x : Nat) : Int) := by omega
  rw [h1]
  have hlt : (2 * x) ^^^ 285 < 2 ^ 9 := Nat.xor_lt_two_pow (by omega) (by omega)
  show IntKind.i64.wrap ((BitVec.ofInt 64 ((2 * x : Nat) : Int) ^^^ BitVec.ofInt 64 ((285 : Nat) : Int)).toNat : Int) = _
  rw [BitVec.ofInt_natCast, BitVec.ofInt_natCast, BitVec.toNat_xor, BitVec.toNat_ofNat, BitVec.toNat_ofNat, Nat.mod_eq_of_lt (a := 2 * x) (by omega), Nat.mod_eq_of_lt (a := 285) (by omega), IntKind.wrap_i64]
  omega
set_option maxRecDepth 100000 in
set_option maxHeartbeats 400000 in
theorem new_calls (w : World) : Calls Try.prog 10 #[] w fun e w' => e = .returned (.pointer (some ⟨w.heap.size, 0, none⟩)) ∧ w' = w.alloc (.cells (arr8 (tab 255)) 41) := by
  have hz := zeroT
  go_enter Try.func10, Try.ntmps10
  go_wp2_with fail
  go_loopw [2, 3, 6] (fun x _ n wr => ∃ k : Nat, k ≤ 255 ∧ n = .int .i64 k ∧ x = .int .i64 (pwN k : Int) ∧ wr = w.alloc (.cells (arr8 (tab k)) 41)) (fun _ _ n _ => 255 - (intOf n).toNat)
  case atStart => exact ⟨0, by omega, rfl, rfl, rfl⟩
  case round =>
    obtain ⟨k, hk, rfl, rfl, rfl⟩ := hrel
    have hx := pwN_le k
    by_cases hlt : k < 255
    · have hc1 := arr8_get (tab k) k (by rw [tab_len]; omega)
      have hc2 := arr8_get ((tab k).set k (pwN k : Int)) (255 + pwN k) (by rw [List.length_set, tab_len]; omega)
      by_cases hd : 255 < 2 * pwN k
      · have hb := dblInt (pwN k) hx hd
        have hb' := dbl_le ⟨pwN k, by omega⟩
        have hd' : (255 : Int) < (pwN k : Int) + (pwN k : Int) := by omega
        have HB := Lib.hid hb
        clear hb
        go_wp2
        go_roundw
        case rel => exact ⟨k + 1, by omega, by go_num, by rw [HB.out]; rfl, rfl⟩
        case measure => simp [intOf]; omega
      · have hd' : (pwN k : Int) + (pwN k : Int) ≤ 255 := by omega
        have hb : Hid ((pwN k : Int) + (pwN k : Int) = (dbl (pwN k) : Int)) := Lib.hid (by unfold dbl; rw [if_neg hd]; omega)
        go_wp2
        go_roundw
        case rel => exact ⟨k + 1, by omega, by go_num, by rw [hb.out]; rfl, rfl⟩
        case measure => simp [intOf]; omega
    · obtain rfl : k = 255 := by omega
      go_wp2
      go_ret
      exact ⟨rfl, rfl⟩
theorem isTab_new (w : World) : IsTab (w.alloc (.cells (arr8 (tab 255)) 41)) w.heap.size := by
  refine ⟨fun n h0 h1 => ?_, fun a h0 h1 => ?_, by simp⟩
  · obtain ⟨n, rfl⟩ := Int.eq_ofNat_of_zero_le h0
    rw [Int.toNat_natCast, World.cell?_alloc_new, arr8_get _ _ (by rw [tab_len]; omega), tab_pw n (by omega)]
  · obtain ⟨a, rfl⟩ := Int.eq_ofNat_of_zero_le h0
    rw [Int.toNat_natCast, World.cell?_alloc_new, arr8_get _ _ (by rw [tab_len]; omega), tab_wh a (by omega)]
/-- field.New: a pointer to a new table. -/
theorem fnew_calls (w : World) : Calls Try.prog 10 #[] w fun e w' => ∃ g, e = .returned (.pointer (some ⟨g, 0, none⟩)) ∧ IsTab w' g ∧ w.heap.size ≤ g ∧ Below w.heap.size w w' := by
  refine (new_calls w).mono ?_
  rintro e w' ⟨rfl, rfl⟩
  exact ⟨_, rfl, isTab_new w, Nat.le_refl _, (Below.refl _ _).alloc (Nat.le_refl _) _⟩
/-- Where among the powers a number lies. -/
def ix (n : Int) : Int := n % 255
set_option maxRecDepth 100000 in
set_option maxHeartbeats 400000 in
theorem power_calls (g : Nat) (n : Int) (w : World) (hI : IsTab w g) : Calls Try.prog 18 #[.pointer (some ⟨g, 0, none⟩), .int .i64 n] w fun e w' => e = .returned (.int .u8 (pw (ix n).toNat : Int)) ∧ w = w' := by
  have hi0 : 0 ≤ ix n ∧ ix n < 255 := ⟨Int.emod_nonneg _ (by omega), Int.emod_lt_of_pos _ (by omega)⟩
  have hc := hI.1 (ix n) hi0.1 hi0.2
  have he : (n.tmod 255 + 255) % 255 = ix n := by
    unfold ix
    rw [Int.tmod_eq_emod]
    split <;> omega
  have hr : -255 < n.tmod 255 ∧ n.tmod 255 < 255 := by
    rw [Int.tmod_eq_emod]
    split <;> omega
  obtain ⟨hi0, hi1⟩ := hi0
  obtain ⟨hr0, hr1⟩ := hr
  clear hI
  go_enter Try.func18, Try.ntmps18
  go_wp2
  go_ret
  exact ⟨rfl, rfl⟩
set_option maxRecDepth 100000 in
set_option maxHeartbeats 400000 in
theorem times_calls (g a b : Nat) (w : World) (hI : IsTab w g) (ha : a ≤ 255) (hb : b ≤ 255) : Calls Try.prog 13 #[.pointer (some ⟨g, 0, none⟩), .int .u8 (a : Int), .int .u8 (b : Int)] w fun e w' => e = .returned (.int .u8 (tim a b : Int)) ∧ Below w.heap.size w w' := by
  have wa := wh_le a ha
  have wb := wh_le b hb
  have h1 := hI.2.1 (a : Int) (by omega) (by omega)
  have h2 := hI.2.1 (b : Int) (by omega) (by omega)
  have h3 := hI.1 (((wh a : Int) + wh b) % 255) (by omega) (by omega)
  rw [Int.toNat_natCast] at h1 h2
  clear hI
  by_cases h0 : a = 0
  · subst h0
    have HT := Lib.hid (tim_zero_left b)
    go_enter Try.func13, Try.ntmps13
    go_wp2
    go_ret
    exact ⟨by rw [HT.out]; rfl, Below.refl _ _⟩
  · by_cases h0' : b = 0
    · subst h0'
      have HT := Lib.hid (tim_zero_right a)
      have ha' : ((a : Int) == 0) = false := by rw [beq_eq_false_iff_ne]; omega
      clear h0
      go_enter Try.func13, Try.ntmps13
      go_wp2
      go_ret
      exact ⟨by rw [HT.out]; rfl, Below.refl _ _⟩
    · have HT := Lib.hid (show tim a b = pw ((wh a + wh b) % 255) by unfold tim; rw [if_neg (by omega)])
      have ha' : ((a : Int) == 0) = false := by rw [beq_eq_false_iff_ne]; omega
      have hb' : ((b : Int) == 0) = false := by rw [beq_eq_false_iff_ne]; omega
      clear h0 h0'
      have i0 : (0 : Int) ≤ (a : Int) := by omega
      have i1 : (a : Int) < 256 := by omega
      have i2 : (0 : Int) ≤ (b : Int) := by omega
      have i3 : (b : Int) < 256 := by omega
      have i4 : IntKind.i64.wrap ((wh a : Int) + (wh b : Int)) = (wh a : Int) + (wh b : Int) := IntWalk.i64_in _ (by omega)
      have i8 : IntKind.i64.wrap (wh a : Int) = (wh a : Int) := IntWalk.i64_in _ (by omega)
      have i9 : IntKind.i64.wrap (wh b : Int) = (wh b : Int) := IntWalk.i64_in _ (by omega)
      have j1 : ((wh a : Int) + (wh b : Int)).tmod 255 = ((wh a : Int) + (wh b : Int)) % 255 := Int.tmod_eq_emod_of_nonneg (by omega)
      have i5 : (0 : Int) ≤ (wh a : Int) + (wh b : Int) := by omega
      have i6 : (0 : Int) ≤ ((wh a : Int) + (wh b : Int)) % 255 := by omega
      have i7 : ((wh a : Int) + (wh b : Int)) % 255 < 255 := by omega
      go_enter Try.func13, Try.ntmps13
      go_wp2
      go_quiet (fail)
      go_wp2
      go_ret
      exact ⟨by rw [HT.out]; rfl, pw_below_drewN (Below.refl _ _) _⟩
theorem power_same (g : Nat) (n : Int) (w : World) (hI : IsTab w g) : Calls Try.prog 18 #[.pointer (some ⟨g, 0, none⟩), .int .i64 n] w fun e w' => e = .returned (.int .u8 (pw (ix n).toNat : Int)) ∧ w' = w :=
  (power_calls g n w hI).mono fun _ _ h => ⟨h.1, h.2.symm⟩
set_option maxRecDepth 100000 in
set_option maxHeartbeats 400000 in
theorem which_calls (g a : Nat) (w : World) (hI : IsTab w g) (ha : a ≤ 255) : Calls Try.prog 16 #[.pointer (some ⟨g, 0, none⟩), .int .u8 (a : Int)] w fun e w' => e = .returned (.tuple #[.int .i64 (wh a : Int), .int .i64 (if a = 0 then 1 else 0)]) ∧ w = w' := by
  have h1 := hI.2.1 (a : Int) (by omega) (by omega)
  have wa := wh_le a ha
  rw [Int.toNat_natCast] at h1
  clear hI
  by_cases h0 : a = 0
  · subst h0
    have HT := Lib.hid wh_zero
    go_enter Try.func16, Try.ntmps16
    go_wp2
    go_ret2
    exact ⟨by rw [HT.out]; rfl, rfl⟩
  · rw [if_neg h0]
    have ha' : ((a : Int) == 0) = false := by rw [beq_eq_false_iff_ne]; omega
    clear h0
    go_enter Try.func16, Try.ntmps16
    go_wp2
    go_ret2
    exact ⟨rfl, rfl⟩
set_option maxRecDepth 100000 in
set_option maxHeartbeats 400000 in
theorem over_calls (g a b : Nat) (w : World) (hI : IsTab w g) (ha : a ≤ 255) (hb : b ≤ 255) : Calls Try.prog 11 #[.pointer (some ⟨g, 0, none⟩), .int .u8 (a : Int), .int .u8 (b : Int)] w fun e w' => e = .returned (.tuple #[.int .u8 (if b = 0 then 0 else (ovr a b : Int)), .int .i64 (if b = 0 then 1 else 0)]) ∧ Below w.heap.size w w' := by
  have wa := wh_le a ha
  have wb := wh_le b hb
  have h1 := hI.2.1 (a : Int) (by omega) (by omega)
  have h2 := hI.2.1 (b : Int) (by omega) (by omega)
  rw [Int.toNat_natCast] at h1 h2
  by_cases h0' : b = 0
  · subst h0'
    go_enter Try.func11, Try.ntmps11
    go_wp2
    go_ret2
    exact ⟨rfl, Below.refl _ _⟩
  · rw [if_neg h0', if_neg h0']
    have hb' : ((b : Int) == 0) = false := by rw [beq_eq_false_iff_ne]; omega
    by_cases h0 : a = 0
    · subst h0
      have HT := Lib.hid (show ovr 0 b = 0 from rfl)
      clear h0'
      go_enter Try.func11, Try.ntmps11
      go_wp2
      go_ret2
      exact ⟨by rw [HT.out]; rfl, Below.refl _ _⟩
    · have HT := Lib.hid (show (ovr a b : Int) = (pw (ix ((wh a : Int) - wh b)).toNat : Int) by
        unfold ovr ix
        rw [if_neg h0]
        congr 2
        omega)
      have ha' : ((a : Int) == 0) = false := by rw [beq_eq_false_iff_ne]; omega
      have HI := Lib.hid hI
      clear h0 h0' hI
      have i0 : (0 : Int) ≤ (a : Int) := by omega
      have i1 : (a : Int) < 256 := by omega
      have i2 : (0 : Int) ≤ (b : Int) := by omega
      have i3 : (b : Int) < 256 := by omega
      have i4 : IntKind.i64.wrap ((wh a : Int) - (wh b : Int)) = (wh a : Int) - (wh b : Int) := IntWalk.i64_in _ (by omega)
      have i8 : IntKind.i64.wrap (wh a : Int) = (wh a : Int) := IntWalk.i64_in _ (by omega)
      have i9 : IntKind.i64.wrap (wh b : Int) = (wh b : Int) := IntWalk.i64_in _ (by omega)
      go_enter Try.func11, Try.ntmps11
      go_wp2_with fail
      go_quiet ((go_at_call 18; exact Calls.quiet_of_same (power_same g _ _ (HI.out.below (pw_below_drewN (Below.refl _ _) _)))))
      go_wp2
      go_ret2
      exact ⟨by rw [HT.out]; rfl, pw_below_drewN (Below.refl _ _) _⟩
end Go.Proofs.Yteccjhiafnnnlaa
