/- Lemmas for the law NeedleApart, merged out of several texts and cut down to what it names, by a program of this session (some of the first ones are of the words that print.sh wrote for this claim). -/
import Derived.Deep.Slices
import Derived.ChangeArms
import Derived.DataReads
import Derived.WideShapes
import Derived.Test.YtpgfafpjfdbjmaaDoorProg
import Derived.Below
import Derived.Deep.Draws
import Derived.Deep.AppendLies
import Derived.Maps.AppendAt
import Derived.OwnWalk
import Derived.Laws.BytesArg
import Derived.Laws.MakeOwn
import Derived.Laws.OwnMore
import Derived.Deep.OwnRows
import Derived.Tactics
import Derived.Lib.ConvBytes
import Derived.Laws.Slices
import Derived.WalkKit
import Derived.KernelRfl
import Derived.RowKit3
import Derived.Deep.LoopGhost
import Derived.Deep.QuietTactic
import Derived.BigQuiet
import Derived.WideLaws
import Derived.Deep.DeepCutAuto
import Derived.Deep.CutBlock
import Derived.Deep.RegionHeld3
import Derived.Laws.Rows
import Derived.Lib.AppendStr
import Derived.ArgAppend
import Derived.Laws.IdiomCopy
import Derived.OrdersHeld
import Derived.Laws.BitsLemmas
import Derived.RowKit
import Derived.StillTail
import Derived.WalkSpells
import Derived.WalkLawsBesides
import Derived.Lib.Hide
import Derived.Lib.FrozenHead2
import Derived.Lib.UnsafeStr
import Derived.Outline
import Derived.BigCall
import Derived.Shelf.RegionOpenPlain
import Derived.Laws.Externs
import Derived.Deep.WholeRow
import Derived.Deep.MidRow
import Derived.Laws.BytesString
import Derived.Laws.IdiomStrings
import Derived.Laws.Strings
import Derived.Lib.IndexBytes
import Derived.Lib.PathFns
import Derived.Test.YtpgfafpjfdbjmaaDoorKNeedleApart1
set_option linter.unusedVariables false
set_option linter.unusedSimpArgs false
section
namespace Go.Proofs.YtpgfafpjfdbjmaaDoor
open Go.RowKit Go.Proofs.YtpgfafpjfdbjmaaDoorW.PrintWords
def Opens {α : Type} (P : Program) (t : TypeId) (d : Kd α) (q : α → Prop) : Prop :=
  ∀ (H : Type) (enc : TypeId × Value → H) (w : World) (base : Nat) (spare : Nat → Bool) (held : Bool) (fuel : Nat) (cs : List Value) (x : DataW H × List MemPlace),
    DataW.trod enc P w base spare held fuel t cs = some x → ∃ a : α, d.K w a cs ∧ q a
theorem opens_string {P : Program} {t : TypeId} (ht : P.underlying t = some .string) : Opens P t Kd.string (fun s => s.size ≤ maxLen) := by
  intro H enc w base spare held fuel cs x h
  obtain ⟨s, rfl, _, hs⟩ := DataW.trod_string ht h
  exact ⟨s, rfl, hs⟩
theorem field_of {H : Type} {enc : TypeId × Value → H} {P : Program} {w : World} {base : Nat} {spare : Nat → Bool} {held : Bool} {fuel : Nat} {t : TypeId} {cs : List Value} {x : DataW H × List MemPlace} {fs : Array Field}
    (ht : P.underlying t = some (.struct fs)) (h : DataW.trod enc P w base spare held fuel t cs = some x) :
    cs.length = P.cellsOf t ∧ ∃ n, ∀ (i : Nat) (f : Field), fs[i]? = some f → ∃ y, DataW.trod enc P w base spare held n f.type ((cs.drop f.offset).take (P.cellsOf f.type)) = some y := by
  obtain ⟨xs, n, _, _, hl, hx, hf⟩ := DataW.trod_struct ht h
  refine ⟨hl, n, fun i f hi => ?_⟩
  have hi' : i < xs.length := by
    rcases Nat.lt_or_ge i fs.size with h1 | h1
    · omega
    · rw [Array.getElem?_eq_none h1] at hi; cases hi
  exact ⟨xs[i], by rw [hf i f hi, List.getElem?_eq_getElem hi']⟩
theorem arr_of_list {cs : Array Value} {l : List Value} (h : cs.toList = l) : cs = l.toArray := by rw [← h]
theorem list_succ {α : Type} {l : List α} {n : Nat} (h : l.length = n + 1) : ∃ a m, l = a :: m ∧ m.length = n := by
  match l, h with
  | a :: m, h => exact ⟨a, m, rfl, by simpa using h⟩
theorem list_zero {α : Type} {l : List α} (h : l.length = 0) : l = [] := List.eq_nil_of_length_eq_zero h
end Go.Proofs.YtpgfafpjfdbjmaaDoor
end
section
namespace Go.Proofs.YtpgfafpjfdbjmaaDoor.Q
open Go.RowKit Go.Proofs.YtpgfafpjfdbjmaaDoorW.PrintWords Go.Proofs.YtpgfafpjfdbjmaaDoorW.PrintLast Go.Proofs.YtpgfafpjfdbjmaaDoorW.PrintMore
attribute [local go_sem] max2_int min2_int max_two min_two max_three min_three max_four min_four   -- for this text's walks alone
set_option linter.unusedVariables false
set_option linter.unusedSimpArgs false
def errW : Option Int → Value
  | none => .nilIface
  | some c => .iface 0 (.int .i64 c)
theorem errW_none : errW none = .nilIface := rfl
theorem errW_some (c : Int) : errW (some c) = .iface 0 (.int .i64 c) := rfl
theorem info5 : (Tryd.prog.info? 5).map (fun i => (i.zero, i.size, i.bytes)) = some (some (.int .u8 0), 1, 1) := by kernel_rfl
structure S28 where
  f0 : ByteArray
  f1 : ByteArray
def k28 : Kd S28 := Kd.iso (Kd.pair Kd.string Kd.string) (fun x : S28 => (x.f0, x.f1))
theorem k28_mkM (w : World) (base : Nat) (ok : Nat → Prop) (x : S28)  : k28.M w base ok x [.string x.f0, .string x.f1] := ⟨[.string x.f0], [.string x.f1], rfl, rfl, rfl⟩
end Go.Proofs.YtpgfafpjfdbjmaaDoor.Q
end
section
namespace Go.Proofs.YtpgfafpjfdbjmaaDoor.Q
open Go.RowKit Go.Proofs.YtpgfafpjfdbjmaaDoorW.PrintWords Go.Proofs.YtpgfafpjfdbjmaaDoorW.PrintLast Go.Proofs.YtpgfafpjfdbjmaaDoorW.PrintMore
attribute [local go_sem] max2_int min2_int max_two min_two max_three min_three max_four min_four   -- for this text's walks alone
set_option linter.unusedVariables false
set_option linter.unusedSimpArgs false
theorem eqA23 (d : Nat) (w : World) (x0 y0 : ByteArray) (x1 y1 : ByteArray) :
    (Op.equalIn (d + 2) 23 (.agg #[.string x0, .string x1]) (.agg #[.string y0, .string y1])).run Tryd.prog w = .ok (x0.toList == y0.toList && (x1.toList == y1.toList)) w := by
  refine eqA_of Tryd.underlying23 (by kernel_rfl) ?_
  refine eqf_cons (by rfl) (by go_simp; rfl) (by go_simp; rfl) (by go_simp) ?_
  exact eqf_last (by rfl) (by go_simp; rfl) (by go_simp; rfl) (by go_simp)
end Go.Proofs.YtpgfafpjfdbjmaaDoor.Q
end
section
namespace Go.Proofs.YtpgfafpjfdbjmaaDoor.Q
open Go.RowKit Go.Proofs.YtpgfafpjfdbjmaaDoorW.PrintWords Go.Proofs.YtpgfafpjfdbjmaaDoorW.PrintLast Go.Proofs.YtpgfafpjfdbjmaaDoorW.PrintMore
attribute [local go_sem] max2_int min2_int max_two min_two max_three min_three max_four min_four   -- for this text's walks alone
set_option linter.unusedVariables false
set_option linter.unusedSimpArgs false
mutual
def pack_Number.j0 : Nat → Int → Bool → Option (ByteArray)
  | 0, _, _ => none
  | k + 1, x0, x9 => if x9 = true then (some (⟨#[]⟩ : ByteArray)) else (pack_Number.l0 k x0 ([] : List Int))
def pack_Number.l0 : Nat → Int → List Int → Option (ByteArray)
  | 0, _, _ => none
  | k + 1, x0, x3 => if x0 ≥ 128 then (if x3.length < 140737488355328 then (pack_Number.l0 k (x0 / 128) (x3 ++ [Go.bits .or .u8 ((x0) % 256) 128])) else (none)) else (if x3.length < 140737488355328 then (some (strOfNums (x3 ++ [(x0) % 256]))) else (none))
end
def pack_Number.f (k : Nat) (a0 : Int) : Option (ByteArray) := if a0 < 0 then (pack_Number.j0 k a0 true) else (pack_Number.j0 k a0 (decide (a0 > 72057594037927935)))
set_option maxHeartbeats 8000000 in
set_option maxRecDepth 100000 in
theorem pack_Number.calls (k : Nat) (a0 : Int) (r : ByteArray) (w : World) (h : pack_Number.f k a0 = some r) :
    Calls Tryd.prog 47 #[.int .i64 a0] w fun e w' => e = .returned (.string r) ∧ Below w.heap.size w w' := by
  have HB := Aside0.mk (Below.refl w.heap.size w)
  have H : (if a0 < 0 then (pack_Number.j0 k a0 true) else (pack_Number.j0 k a0 (decide (a0 > 72057594037927935)))) = some r := h
  clear h
  have HC2 := Aside0.mk H
  clear H
  go_enter Tryd.func47, Tryd.ntmps47
  go_upto_region 1 with (fail)
  go_cut [9] (fun v9 wc => ∃ (kq : Nat) (x9_1 : Bool), v9 = .bool x9_1 ∧ Aside0 (pack_Number.j0 kq a0 x9_1 = some r) ∧ Aside0 (kq ≤ k) ∧ Aside0 (Below w.heap.size w wc))
  case first =>
    have H := HC2.out
    clear HC2
    by_cases c3 : a0 < 0
    · rw [if_pos c3] at H
      have c3b0 : decide (a0 < 0) = true := decide_eq_true c3
      clear c3
      (first | rw [c3b0] | (simp only [i64_w, i32_w]; rw [c3b0]) | skip)
      have H' := Aside0.mk H
      clear H
      go_wp2
      go_meet
      case rel => exact ⟨_, (true), (by first | rfl | (simp; done) | (simp [*]; done)), H', ⟨by first | omega | exact Nat.le_refl _⟩, ⟨by repeat (first | (with_reducible first | exact HB.out | apply below_alloc | apply pw_below_drewN | apply below_drew1) | exact HB.out)⟩⟩
    · rw [if_neg c3] at H
      have c3b0 : decide (a0 < 0) = false := decide_eq_false c3
      clear c3
      (first | rw [c3b0] | (simp only [i64_w, i32_w]; rw [c3b0]) | skip)
      have H' := Aside0.mk H
      clear H
      go_wp2
      go_meet
      case rel => exact ⟨_, (decide (a0 > 72057594037927935)), (by first | rfl | (simp; done) | (simp [*]; done)), H', ⟨by first | omega | exact Nat.le_refl _⟩, ⟨by repeat (first | (with_reducible first | exact HB.out | apply below_alloc | apply pw_below_drewN | apply below_drew1) | exact HB.out)⟩⟩
  case rest =>
    clear HC2
    try clear p2
    try clear c3
    try clear c3b0
    obtain ⟨kq, x9_1, rfl, HA, HJ1, HB⟩ := hcut
    cases kq with
    | zero => exact absurd HA.out (by simp [pack_Number.j0])
    | succ kj1 =>
      have H := HA.out
      clear HA
      simp only [pack_Number.j0] at H
      by_cases c4 : x9_1 = true
      · subst c4
        have H1 : (some (⟨#[]⟩ : ByteArray)) = some r := by rw [if_pos rfl] at H; exact H
        clear H
        have H := H1
        clear H1
        obtain rfl := Option.some.inj H
        go_wp2
        go_ret
        exact ⟨by first | rfl | (simp [errW_none, errW_some] <;> rfl) | (simp [*, errW_none, errW_some] <;> rfl), by repeat (first | (with_reducible first | exact HB.out | apply below_alloc | apply pw_below_drewN | apply below_drew1) | exact HB.out)⟩
      · replace c4 := Bool.eq_false_iff.mpr c4
        subst c4
        have H1 : (pack_Number.l0 kj1 a0 ([] : List Int)) = some r := by rw [if_neg (show ¬ (false = true) by decide)] at H; exact H
        clear H
        have H := H1
        clear H1
        have H' := Aside0.mk H
        clear H
        go_wp2
        go_loopg [0, 3] kj1 (fun kq v0 v3 w' => ∃ (x0_2 : Int) (x3_2 : List Int), v0 = .int .i64 x0_2 ∧ Aside0 (pack_Number.l0 kq x0_2 x3_2 = some r) ∧ Aside0 (kq ≤ kj1) ∧ Aside0 (Kd.R (Kd.int .u8) 5 w' w.heap.size (fun _ => True) v3 x3_2) ∧ Aside0 (Below w.heap.size w w'))
        case atStart => exact ⟨(a0), (([] : List Int)), (by first | rfl | (simp; done) | (simp [*]; done)), H', ⟨Nat.le_refl _⟩, ⟨by first | exact Kd.R_nil _ _ _ _ _ | exact Kd.N_nil _ _ _ _ _ | exact Kd.V_nil _ _ _ _ _ | exact Kd.Q_nil _ _ _ _ _ | exact Kd.S_nil _ _ _ _ _⟩, ⟨by repeat (first | (with_reducible first | exact HB.out | apply below_alloc | apply pw_below_drewN | apply below_drew1) | exact HB.out)⟩⟩
        case round =>
          clear H'
          try clear p2
          try clear c3
          try clear c3b0
          try clear c4
          try clear p2
          obtain ⟨x0_2, x3_2, rfl, HA, HK2, HO_3, HB⟩ := hrel
          cases gk with
          | zero => exact absurd HA.out (by simp [pack_Number.l0])
          | succ k2 =>
            have H := HA.out
            clear HA
            simp only [pack_Number.l0] at H
            by_cases c5 : x0_2 ≥ 128
            · rw [if_pos c5] at H
              have c5b0 : decide (128 ≤ x0_2) = true := decide_eq_true c5
              clear c5
              by_cases c6 : x3_2.length < 140737488355328
              · rw [if_pos c6] at H
                have LMc6 := Aside0.mk c6
                clear c6
                obtain ⟨y101, hy101⟩ : ∃ y_ : List Int, y_ = (x3_2 ++ [Go.bits .or .u8 ((x0_2) % 256) 128]) := ⟨_, rfl⟩
                replace H : (pack_Number.l0 k2 (x0_2 / 128) y101) = some r := by first | (rw [hy101]; with_reducible exact H) | (have H2_ := (Option.bind_some _ _).symm.trans H; rw [hy101]; with_reducible exact H2_) | (have H2_ := (Option.bind_some _ _).symm.trans H; with_reducible exact H2_) | with_reducible exact H | (rw [hy101]; exact H) | exact H
                have Ny101 := Aside0.mk hy101
                clear hy101
                have H' := Aside0.mk H
                clear H
                go_wp2_with (first | ((with_reducible refine gate_builtin (b := .append) (xs := #[.tmp 14, .tmp 18]) rfl ?_); at_builtin; refine Kd.R_append (Kd.int .u8) (w0 := w) w.heap.size rfl (.tmp 14) (.tmp 18) 59 5 (.int .u8 0) 1 rfl Tryd.underlying59 info5 rfl (by decide) (by omega) u3 x3_2 (Go.bits .or .u8 ((x0_2) % 256) 128) [.int .u8 (Go.bits .or .u8 ((x0_2) % 256) 128)] (fun _ => True) (fun _ => False) rfl rfl ?aP (fun _ hk => hk.elim) ?aF ?aO ?aB ?aS ?aL ?_; (case aP => exact rfl); (case aB => exact (by repeat (first | (with_reducible first | exact HB.out | apply below_alloc | apply pw_below_drewN | apply below_drew1) | exact HB.out))); (case aF => exact (fun _ _ => trivial)); (case aO => exact (by (with_reducible repeat (first | apply Kd.R_alloc | apply Kd.R_drewN | apply Kd.R_drew)); exact HO_3.out)); (case aS => exact (below_size (by repeat (first | (with_reducible first | exact HB.out | apply below_alloc | apply pw_below_drewN | apply below_drew1) | exact HB.out)))); (case aL => have := LMc6.out; omega); intro v102 w7 ho hb hg hat; rw [← Ny101.out] at ho; have n0_ := Aside0.mk (hb); have n1_ := Aside0.mk (ho); clear HB; clear HO_3; have HB := n0_; have HO103 := n1_; clear n0_ n1_; clear ho hb hg hat))
                go_roundg k2
                case measure => have := HJ1.out; have := HK2.out; omega
                case rel => exact ⟨(x0_2 / 128), (y101), (by first | rfl | (simp; done) | (simp [*]; done)), H', ⟨by have := HJ1.out; have := HK2.out; omega⟩, ⟨by (with_reducible repeat (first | apply Kd.R_alloc | apply Kd.R_drewN | apply Kd.R_drew)); exact HO103.out⟩, ⟨by repeat (first | (with_reducible first | exact HB.out | apply below_alloc | apply pw_below_drewN | apply below_drew1) | exact HB.out)⟩⟩
              · rw [if_neg c6] at H
                exact absurd H (by simp)
            · rw [if_neg c5] at H
              have c5b0 : decide (128 ≤ x0_2) = false := decide_eq_false c5
              clear c5
              by_cases c8 : x3_2.length < 140737488355328
              · rw [if_pos c8] at H
                have LMc8 := Aside0.mk c8
                clear c8
                obtain ⟨y104, hy104⟩ : ∃ y_ : List Int, y_ = (x3_2 ++ [(x0_2) % 256]) := ⟨_, rfl⟩
                replace H : (some (strOfNums y104)) = some r := by first | (rw [hy104]; with_reducible exact H) | (have H2_ := (Option.bind_some _ _).symm.trans H; rw [hy104]; with_reducible exact H2_) | (have H2_ := (Option.bind_some _ _).symm.trans H; with_reducible exact H2_) | with_reducible exact H | (rw [hy104]; exact H) | exact H
                have Ny104 := Aside0.mk hy104
                clear hy104
                obtain rfl := Option.some.inj H
                go_wp2_with (first | ((with_reducible refine gate_builtin (b := .append) (xs := #[.tmp 20, .tmp 23]) rfl ?_); at_builtin; refine Kd.R_append (Kd.int .u8) (w0 := w) w.heap.size rfl (.tmp 20) (.tmp 23) 59 5 (.int .u8 0) 1 rfl Tryd.underlying59 info5 rfl (by decide) (by omega) u3 x3_2 ((x0_2) % 256) [.int .u8 ((x0_2) % 256)] (fun _ => True) (fun _ => False) rfl rfl ?aP (fun _ hk => hk.elim) ?aF ?aO ?aB ?aS ?aL ?_; (case aP => exact rfl); (case aB => exact (by repeat (first | (with_reducible first | exact HB.out | apply below_alloc | apply pw_below_drewN | apply below_drew1) | exact HB.out))); (case aF => exact (fun _ _ => trivial)); (case aO => exact (by (with_reducible repeat (first | apply Kd.R_alloc | apply Kd.R_drewN | apply Kd.R_drew)); exact HO_3.out)); (case aS => exact (below_size (by repeat (first | (with_reducible first | exact HB.out | apply below_alloc | apply pw_below_drewN | apply below_drew1) | exact HB.out)))); (case aL => have := LMc8.out; omega); intro v105 w9 ho hb hg hat; rw [← Ny104.out] at ho; have n0_ := Aside0.mk (hb); have n1_ := Aside0.mk (ho); clear HB; clear HO_3; have HB := n0_; have HO106 := n1_; clear n0_ n1_; clear ho hb hg hat; have hcv10 := own_string (P := Tryd.prog) Tryd.underlying59 Tryd.underlying5 Tryd.underlying9 (Kd.own_of_R HO106.out)))
                go_ret
                exact ⟨by first | rfl | (simp [errW_none, errW_some] <;> rfl) | (simp [*, errW_none, errW_some] <;> rfl), by repeat (first | (with_reducible first | exact HB.out | apply below_alloc | apply pw_below_drewN | apply below_drew1) | exact HB.out)⟩
              · rw [if_neg c8] at H
                exact absurd H (by simp)
def pack_Text.f (k : Nat) (a0 : ByteArray) : Option (ByteArray) := (pack_Number.f k (a0.size : Int)).bind fun t107 => (if t107.size + a0.size ≤ 9223372036854775807 then (some (t107 ++ a0)) else (none))
set_option maxHeartbeats 8000000 in
set_option maxRecDepth 100000 in
theorem pack_Text.calls (k : Nat) (a0 : ByteArray) (r : ByteArray) (w : World) (h : pack_Text.f k a0 = some r) :
    Calls Tryd.prog 28 #[.string a0] w fun e w' => e = .returned (.string r) ∧ Below w.heap.size w w' := by
  have HB := Aside0.mk (Below.refl w.heap.size w)
  have H : ((pack_Number.f k (a0.size : Int)).bind fun t107 => (if t107.size + a0.size ≤ 9223372036854775807 then (some (t107 ++ a0)) else (none))) = some r := h
  clear h
  replace H := Option.bind_eq_some_iff.mp H
  obtain ⟨t107, A20, H⟩ := H
  replace H : (if t107.size + a0.size ≤ 9223372036854775807 then (some (t107 ++ a0)) else (none)) = some r := H
  have A2 := Aside0.mk A20
  clear A20
  by_cases c3 : t107.size + a0.size ≤ 9223372036854775807
  · rw [if_pos c3] at H
    have c3b0 := eq_true c3
    have c3b1 : decide (t107.size + a0.size ≤ 9223372036854775807) = true := decide_eq_true c3
    try have c3b2 : (9223372036854775807 < t107.size + a0.size) = False := eq_false (Nat.not_lt.2 c3)
    obtain rfl := Option.some.inj H
    go_enter Tryd.func28, Tryd.ntmps28
    go_wp2_with (first | ((with_reducible refine gate_callee (f := 47) rfl ?_); refine goesL_ (some 5) rfl rfl Tryd.func47 (by kernel_rfl) rfl #[.int .i64 (a0.size : Int)] rfl (by (try simp only [List.map_toArray, List.map_cons, List.map_nil]); first | done | rfl | (simp only [List.length_drop, List.length_take]; rfl)) ?_; (with_reducible refine (pack_Number.calls k (a0.size : Int) t107 _ A2.out).mono ?_); rintro e w4 ⟨rfl, hb⟩; refine ⟨_, rfl, ?_⟩; have n0_ := Aside0.mk (below_step (by repeat (first | (with_reducible first | exact HB.out | apply below_alloc | apply pw_below_drewN | apply below_drew1) | exact HB.out)) hb); clear HB; have HB := n0_; clear n0_; (try clear hb); (try clear hb2); (try clear hk); (try clear hi)))
    go_ret
    exact ⟨by first | rfl | (simp [errW_none, errW_some] <;> rfl) | (simp [*, errW_none, errW_some] <;> rfl), by repeat (first | (with_reducible first | exact HB.out | apply below_alloc | apply pw_below_drewN | apply below_drew1) | exact HB.out)⟩
  · rw [if_neg c3] at H
    exact absurd H (by simp)
def digest_right.f (a0 : Int) (a1 : Int) : Option (Int) := if 0 ≤ a1 then (if 0 ≤ (wrap64 (32 - a1)) then (some (Go.bits .or .u32 (shr .u32 a0 a1) (shl .u32 a0 (wrap64 (32 - a1))))) else (none)) else (none)
set_option maxHeartbeats 8000000 in
set_option maxRecDepth 100000 in
theorem digest_right.calls (a0 : Int) (a1 : Int) (r : Int) (w : World) (h : digest_right.f a0 a1 = some r) :
    Calls Tryd.prog 86 #[.int .u32 a0, .int .i64 a1] w fun e w' => e = .returned (.int .u32 r) ∧ Drawn0 w w' := by
  have H : (if 0 ≤ a1 then (if 0 ≤ (wrap64 (32 - a1)) then (some (Go.bits .or .u32 (shr .u32 a0 a1) (shl .u32 a0 (wrap64 (32 - a1))))) else (none)) else (none)) = some r := h
  clear h
  by_cases c3 : 0 ≤ a1
  · rw [if_pos c3] at H
    have c3b0 := eq_true c3
    have c3b1 : decide (0 ≤ a1) = true := decide_eq_true c3
    clear c3
    obtain ⟨ji4, hji4⟩ : ∃ j_ : Int, (shr .u32 a0 a1) = j_ := ⟨_, rfl⟩
    replace H : (if 0 ≤ (wrap64 (32 - a1)) then (some (Go.bits .or .u32 (ji4) (shl .u32 a0 (wrap64 (32 - a1))))) else (none)) = some r := by first | (rw [hji4] at H; exact H) | (simp only [hji4] at H ⊢; exact H)
    have hji4_ : (a0 / 2 ^ min a1.toNat 32) = ji4 := hji4
    have hji4z : a1 ≤ 32 → (a0 / 2 ^ a1.toNat) = ji4 := shr_small hji4
    obtain ⟨ji5, hji5⟩ : ∃ j_ : Int, (wrap64 (32 - a1)) = j_ := ⟨_, rfl⟩
    replace H : (if 0 ≤ (ji5) then (some (Go.bits .or .u32 (ji4) (shl .u32 a0 (ji5)))) else (none)) = some r := by first | (rw [hji5] at H; exact H) | (simp only [hji5] at H ⊢; exact H)
    have hji5w : (IntKind.i64.wrap (32 - a1)) = ji5 := (i64_w _).trans hji5
    by_cases c6 : 0 ≤ (ji5)
    · rw [if_pos c6] at H
      have c6b0 := eq_true c6
      have c6b1 : decide (0 ≤ (ji5)) = true := decide_eq_true c6
      clear c6
      obtain ⟨ji7, hji7⟩ : ∃ j_ : Int, (shl .u32 a0 (ji5)) = j_ := ⟨_, rfl⟩
      replace H : (some (Go.bits .or .u32 (ji4) (ji7))) = some r := by first | (rw [hji7] at H; exact H) | (simp only [hji7] at H ⊢; exact H)
      have hji7_ : (IntKind.u32.wrap (a0 * 2 ^ min (ji5).toNat 32)) = ji7 := hji7
      have hji7z : (ji5) ≤ 32 → (IntKind.u32.wrap (a0 * 2 ^ (ji5).toNat)) = ji7 := shl_small hji7
      obtain rfl := Option.some.inj H
      go_enter Tryd.func86, Tryd.ntmps86
      go_wp2
      repeat (go_quiet (fail); try go_wp2)
      go_ret
      exact ⟨by first | rfl | (simp; done) | (simp only [← hji4, ← hji5, ← hji7] <;> (first | rfl | simp)) | (simp [*]; done), by repeat (first | exact Drawn0.refl _ | apply Drawn0.step)⟩
    · rw [if_neg c6] at H
      exact absurd H (by simp)
  · rw [if_neg c3] at H
    exact absurd H (by simp)
def IsS88 (w0 W : World) (g : Nat) (f0 : ByteArray) (f1 : Int) : Prop := W.heap[g]? = some (.cells #[.string f0, .int .i64 f1] 88 (0, 0)) ∧ w0.heap.size ≤ g
theorem IsS88.grown {w0 W : World} {g : Nat} {f0 : ByteArray} {f1 : Int} {W1 : World} {row : Option Nat} (h : IsS88 w0 W g f0 f1) (hw : W.grownBy W1 row) (hne : some g ≠ row) : IsS88 w0 W1 g f0 f1 := by
  obtain ⟨hb, hg⟩ := h
  exact ⟨blk_grown hb hw hne, hg⟩
theorem IsS88.fresh {w0 W : World} {g : Nat} {f0 : ByteArray} {f1 : Int} (h : IsS88 w0 W g f0 f1) : ∀ k, W.heap.size ≤ k → k ≠ g := by
  obtain ⟨hb, hg⟩ := h
  exact Kd.freshB hb
theorem IsS88.kept {w0 W : World} {g : Nat} {f0 : ByteArray} {f1 : Int} {W1 : World} {S : Nat → Prop} (h : IsS88 w0 W g f0 f1) (hk : Kept W W1 S) (hne : ¬ S g) : IsS88 w0 W1 g f0 f1 := by
  obtain ⟨hb, hg⟩ := h
  exact ⟨blk_kept hb hk hne, hg⟩
theorem IsS88.below {w0 W : World} {g : Nat} {f0 : ByteArray} {f1 : Int} {W1 : World} (h : IsS88 w0 W g f0 f1) (hw : Below W.heap.size W W1) : IsS88 w0 W1 g f0 f1 := h.grown (grown_of_below hw none) (by simp)
theorem IsS88.alloc {w0 W : World} {g : Nat} {f0 : ByteArray} {f1 : Int} (h : IsS88 w0 W g f0 f1) (o : Obj) : IsS88 w0 (W.alloc o) g f0 f1 := h.below (below_alloc (Below.refl _ _) o)
theorem IsS88.drewN {w0 W : World} {g : Nat} {f0 : ByteArray} {f1 : Int} (h : IsS88 w0 W g f0 f1) (m : Nat) : IsS88 w0 (W.drewN m) g f0 f1 := h
theorem IsS88.drew {w0 W : World} {g : Nat} {f0 : ByteArray} {f1 : Int} (h : IsS88 w0 W g f0 f1) : IsS88 w0 W.drew g f0 f1 := h
theorem IsS88.at_ {w0 W : World} {g : Nat} {f0 : ByteArray} {f1 : Int} {w' : World} {m : Nat} (hq : W.drewN m = w') (h : IsS88 w0 W g f0 f1) : IsS88 w0 w' g f0 f1 := by subst hq; exact IsS88.drewN h m
theorem IsS88.apart {w0 W : World} {g : Nat} {f0 : ByteArray} {f1 : Int} {α : Type} {d : Kd α} {e : Nat} {base : Nat} {ok : Nat → Prop} {v : Value} {xs : List α} (h : IsS88 w0 W g f0 f1) (ho : d.R e W base ok v xs) (ht : ∀ q, q ∈ e :: d.E → q ≠ 88) : d.R e W base (fun k => ok k ∧ k ≠ g) v xs := by
  obtain ⟨hb, hg⟩ := h
  exact Kd.R_types ho hb ht
theorem IsS88.own_ne {w0 W : World} {g : Nat} {f0 : ByteArray} {f1 : Int} {α : Type} {d : Kd α} {e : Nat} {base : Nat} {ok : Nat → Prop} {v : Value} {xs : List α} (h : IsS88 w0 W g f0 f1) (ho : d.R e W base ok v xs) (ht : e ≠ 88) : some g ≠ v.ownBlock := by
  obtain ⟨hb, hg⟩ := h
  exact Kd.R_ne ho hb ht
theorem IsS88.lt {w0 W : World} {g : Nat} {f0 : ByteArray} {f1 : Int} (h : IsS88 w0 W g f0 f1) : g < W.heap.size := by
  obtain ⟨hb, hg⟩ := h
  exact blk_lt hb
theorem IsS88.ge {w0 W : World} {g : Nat} {f0 : ByteArray} {f1 : Int} (h : IsS88 w0 W g f0 f1) : w0.heap.size ≤ g := by
  obtain ⟨hb, hg⟩ := h
  exact hg
theorem IsS88.ne_blk {w0 W : World} {g : Nat} {f0 : ByteArray} {f1 : Int} {a : Nat} {cs : Array Value} {t : TypeId} {fr : Nat × Nat} (h : IsS88 w0 W g f0 f1) (hb2 : W.heap[a]? = some (.cells cs t fr)) (ht : t ≠ 88) : g ≠ a := by
  obtain ⟨hb, hg⟩ := h
  rintro rfl
  rw [hb] at hb2
  injection hb2 with hb2
  injection hb2 with _ ht2
  exact ht ht2.symm
theorem IsS88.far {w0 W : World} {g : Nat} {f0 : ByteArray} {f1 : Int} {p : Addr} (h : IsS88 w0 W g f0 f1) (hne : g ≠ p.block) (u : Value) : IsS88 w0 (W.setCell p u) g f0 f1 := by
  obtain ⟨hb, hg⟩ := h
  exact ⟨blk_far hb hne u, hg⟩
theorem cellS88_0 {W : World} {g : Nat} {f0 : ByteArray} {f1 : Int} (h : W.heap[g]? = some (.cells #[.string f0, .int .i64 f1] 88 (0, 0))) : W.cell? ⟨g, 0, none⟩ = some (.string f0) := (blk_cell h 0).trans rfl
theorem IsS88.set_0 {w0 W : World} {g : Nat} {f0 : ByteArray} {f1 : Int} (h : IsS88 w0 W g f0 f1) (x : ByteArray) : IsS88 w0 (W.setCell ⟨g, 0, none⟩ (.string x)) g x f1 := by
  obtain ⟨hb, hg⟩ := h
  exact ⟨by simpa using blk_set hb 0 (.string x), hg⟩
theorem cellS88_1 {W : World} {g : Nat} {f0 : ByteArray} {f1 : Int} (h : W.heap[g]? = some (.cells #[.string f0, .int .i64 f1] 88 (0, 0))) : W.cell? ⟨g, 1, none⟩ = some (.int .i64 f1) := (blk_cell h 1).trans rfl
theorem IsS88.set_1 {w0 W : World} {g : Nat} {f0 : ByteArray} {f1 : Int} (h : IsS88 w0 W g f0 f1) (x : Int) : IsS88 w0 (W.setCell ⟨g, 1, none⟩ (.int .i64 x)) g f0 x := by
  obtain ⟨hb, hg⟩ := h
  exact ⟨by simpa using blk_set hb 1 (.int .i64 x), hg⟩
theorem IsS88.new (w0 W : World) (f0 : ByteArray) (f1 : Int) (hB : Below w0.heap.size w0 W) : IsS88 w0 (W.alloc (.cells #[.string f0, .int .i64 f1] 88)) W.heap.size f0 f1 := ⟨by simpa using heap_alloc_new W _, hB.size⟩
def pack_Read.f (a0 : ByteArray) : Option (ByteArray × Int) := some (a0, 0)
set_option maxHeartbeats 8000000 in
set_option maxRecDepth 100000 in
theorem pack_Read.calls (a0 : ByteArray) (r1 : ByteArray) (r2 : Int) (w0 w : World) (hB : Below w0.heap.size w0 w) (h : pack_Read.f a0 = some (r1, r2)) :
    Calls Tryd.prog 35 #[.string a0] w fun e w' => ∃ g_ : Nat, e = .returned (.pointer (some ⟨g_, 0, none⟩)) ∧ IsS88 w0 w' g_ r1 r2 ∧ Below w0.heap.size w0 w' ∧ Below w.heap.size w w' := by
  have hu88 := Tryd.underlying88
  have HBW := Aside0.mk (Below.refl w.heap.size w)
  have HW0 := Aside0.mk hB.size
  have HB := Aside0.mk hB
  clear hB
  have H : (some (a0, 0)) = some (r1, r2) := h
  clear h
  simp only [Option.some.injEq, Prod.mk.injEq] at H
  obtain ⟨rfl, rfl⟩ := H
  go_enter Tryd.func35, Tryd.ntmps35
  go_wp2_with (first | ((with_reducible refine gate_dst (N := 5) rfl ?_); refine box_event ?hg (N := 5) ?hd (cs := #[.string a0, .int .i64 0]) (t := 88) ?hr ?_; (case hd => rfl); (case hg => rfl); (case hr => first | (go_simp; done) | (go_simp; rfl)); intro gb113 hg w2 hbox hb; have n0_ := Aside0.mk (below_step HBW.out hb); have n1_ := Aside0.mk (below_step (by repeat (first | (with_reducible first | exact HB.out | apply below_alloc | apply pw_below_drewN | apply below_drew1) | exact HB.out)) hb); have n2_ := Aside0.mk (hbox); have n3_ := Aside0.mk ((by rw [hg]; exact (below_size (by repeat (first | (with_reducible first | exact HBW.out | apply below_alloc | apply pw_below_drewN | apply below_drew1) | exact HBW.out))) : w.heap.size ≤ gb113)); have n4_ := Aside0.mk ((Nat.le_trans HW0.out (by rw [hg]; exact (below_size (by repeat (first | (with_reducible first | exact HBW.out | apply below_alloc | apply pw_below_drewN | apply below_drew1) | exact HBW.out))) : w.heap.size ≤ gb113) : w0.heap.size ≤ gb113)); clear HBW; clear HB; have HBW := n0_; have HB := n1_; have BK113 := n2_; have GW113 := n3_; have GE113 := n4_; clear n0_ n1_ n2_ n3_ n4_; clear hb hbox hg))
  go_ret
  exact ⟨_, rfl, (show IsS88 w0 _ gb113 a0 0 from ⟨by (with_reducible repeat (first | refine blk_drewN ?_ _ | refine blk_drew ?_ | refine blk_alloc ?_ _)); exact BK113.out, GE113.out⟩), by repeat (first | (with_reducible first | exact HB.out | apply below_alloc | apply pw_below_drewN | apply below_drew1 | refine below_set ?_ GE113.out) | exact HB.out), by repeat (first | (with_reducible first | exact HBW.out | apply below_alloc | apply pw_below_drewN | apply below_drew1 | refine below_set ?_ GW113.out) | exact HBW.out)⟩
def pack_Reader_works.f (s0_0 : ByteArray) (s0_1 : Int) : Option (Bool × ByteArray × Int) := some ((s0_1 == 0), s0_0, s0_1)
set_option maxHeartbeats 8000000 in
set_option maxRecDepth 100000 in
theorem pack_Reader_works.calls (g : Nat) (s0_0 : ByteArray) (s0_1 : Int) (r1 : Bool) (r2 : ByteArray) (r3 : Int) (w0 w : World) (hI : IsS88 w0 w g s0_0 s0_1) (hB : Below w0.heap.size w0 w) (h : pack_Reader_works.f s0_0 s0_1 = some (r1, r2, r3)) :
    Calls Tryd.prog 54 #[.pointer (some ⟨g, 0, none⟩)] w fun e w' => e = .returned (.bool r1) ∧ IsS88 w0 w' g r2 r3 ∧ Below w0.heap.size w0 w' ∧ KeepBut w w' g none := by
  have HI0 := Aside0.mk hI
  have HK := Aside0.mk (KeepBut.refl w g none)
  have HL := Aside0.mk hB.size
  clear hI
  have HW0 := Aside0.mk hB.size
  have HB := Aside0.mk hB
  clear hB
  have H : (some ((s0_1 == 0), s0_0, s0_1)) = some (r1, r2, r3) := h
  clear h
  simp only [Option.some.injEq, Prod.mk.injEq] at H
  obtain ⟨rfl, rfl, rfl⟩ := H
  obtain ⟨HGz2, hgz2⟩ := HI0.out
  have hcz2_0 := cellS88_0 HGz2
  have hcz2_1 := cellS88_1 HGz2
  have hfz2_0 := blk_frozen HGz2 0
  have hfz2_1 := blk_frozen HGz2 1
  clear HGz2 hgz2
  go_enter Tryd.func54, Tryd.ntmps54
  go_wp2
  go_ret
  exact ⟨by first | rfl | (simp [errW_none, errW_some] <;> rfl) | (simp [*, errW_none, errW_some] <;> rfl), by repeat (first | (with_reducible first | exact HI0.out | apply IsS88.alloc | apply IsS88.drewN | apply IsS88.drew | apply IsS88.set_0 | apply IsS88.set_1) | exact HI0.out), by repeat (first | (with_reducible first | exact HB.out | apply below_alloc | apply pw_below_drewN | apply below_drew1 | refine below_set ?_ (IsS88.ge HI0.out)) | exact HB.out), by repeat (first | (with_reducible first | exact HK.out | apply KeepBut.set_ | apply keep_drewN | apply keep_drew | apply keep_alloc) | exact HK.out)⟩
def pack_Reader_wrong.f (s0_0 : ByteArray) (s0_1 : Int) (a1 : Int) : Option (ByteArray × Int) := some ((⟨#[]⟩ : ByteArray), a1)
set_option maxHeartbeats 8000000 in
set_option maxRecDepth 100000 in
theorem pack_Reader_wrong.calls (g : Nat) (s0_0 : ByteArray) (s0_1 : Int) (a1 : Int) (r1 : ByteArray) (r2 : Int) (w0 w : World) (hI : IsS88 w0 w g s0_0 s0_1) (hB : Below w0.heap.size w0 w) (h : pack_Reader_wrong.f s0_0 s0_1 a1 = some (r1, r2)) :
    Calls Tryd.prog 55 #[.pointer (some ⟨g, 0, none⟩), .int .i64 a1] w fun e w' => e = .returned (.tuple #[]) ∧ IsS88 w0 w' g r1 r2 ∧ Below w0.heap.size w0 w' ∧ KeepBut w w' g none := by
  have HI0 := Aside0.mk hI
  have HK := Aside0.mk (KeepBut.refl w g none)
  have HL := Aside0.mk hB.size
  clear hI
  have HW0 := Aside0.mk hB.size
  have HB := Aside0.mk hB
  clear hB
  have H : (some ((⟨#[]⟩ : ByteArray), a1)) = some (r1, r2) := h
  clear h
  simp only [Option.some.injEq, Prod.mk.injEq] at H
  obtain ⟨rfl, rfl⟩ := H
  obtain ⟨HGz3, hgz3⟩ := HI0.out
  have hcz3_0 := cellS88_0 HGz3
  have hcz3_1 := cellS88_1 HGz3
  have hfz3_0 := blk_frozen HGz3 0
  have hfz3_1 := blk_frozen HGz3 1
  clear HGz3 hgz3
  go_enter Tryd.func55, Tryd.ntmps55
  go_wp2
  first | go_end0 | ((try simp only [Exit.inBlock, Exit.then]); refine bodyPost_ret (results_none rfl _ _ _) rfl ?_)
  exact ⟨by first | rfl | (simp [errW_none, errW_some] <;> rfl) | (simp [*, errW_none, errW_some] <;> rfl), by repeat (first | (with_reducible first | exact HI0.out | apply IsS88.alloc | apply IsS88.drewN | apply IsS88.drew | apply IsS88.set_0 | apply IsS88.set_1) | exact HI0.out), by repeat (first | (with_reducible first | exact HB.out | apply below_alloc | apply pw_below_drewN | apply below_drew1 | refine below_set ?_ (IsS88.ge HI0.out)) | exact HB.out), by repeat (first | (with_reducible first | exact HK.out | apply KeepBut.set_ | apply keep_drewN | apply keep_drew | apply keep_alloc) | exact HK.out)⟩
def pack_Reader_Number.l0 : Nat → Int → Int → Int → ByteArray → Int → Option (Int × ByteArray × Int)
  | 0, _, _, _, _, _ => none
  | k + 1, x3, x13, x14, x1000, x1001 => if x14 < x13 then (if 0 ≤ x14 then (if x14 < (x1000.size : Int) then (if (bt x1000 x14) ≥ 128 then (if x14 = 7 then ((pack_Reader_wrong.f x1000 x1001 4).bind fun bt119 => (some (0, bt119.1, bt119.2))) else (if 0 ≤ (wrap64 (7 * x14)) then (pack_Reader_Number.l0 k (Go.bits .or .i64 x3 (shl .i64 (((bt x1000 x14) - 128) % 256) (wrap64 (7 * x14)))) x13 (wrap64 (x14 + 1)) x1000 x1001) else (none))) else (if (bt x1000 x14) = 0 then (if x14 > 0 then ((pack_Reader_wrong.f x1000 x1001 4).bind fun bt121 => (some (0, bt121.1, bt121.2))) else (if 0 ≤ (wrap64 (x14 + 1)) then (if (wrap64 (x14 + 1)) ≤ (x1000.size : Int) then (if 0 ≤ (wrap64 (7 * x14)) then (some (Go.bits .or .i64 x3 (shl .i64 (wrap64 (bt x1000 x14)) (wrap64 (7 * x14))), x1000.extract ((wrap64 (x14 + 1)) : Int).toNat x1000.size, x1001)) else (none)) else (none)) else (none))) else (if 0 ≤ (wrap64 (x14 + 1)) then (if (wrap64 (x14 + 1)) ≤ (x1000.size : Int) then (if 0 ≤ (wrap64 (7 * x14)) then (some (Go.bits .or .i64 x3 (shl .i64 (wrap64 (bt x1000 x14)) (wrap64 (7 * x14))), x1000.extract ((wrap64 (x14 + 1)) : Int).toNat x1000.size, x1001)) else (none)) else (none)) else (none)))) else (none)) else (none)) else ((pack_Reader_wrong.f x1000 x1001 3).bind fun bt117 => (some (0, bt117.1, bt117.2)))
def pack_Reader_Number.f (k : Nat) (s0_0 : ByteArray) (s0_1 : Int) : Option (Int × ByteArray × Int) := (pack_Reader_works.f s0_0 s0_1).bind fun bt114 => (if bt114.1 = true then (pack_Reader_Number.l0 k 0 (bt114.2.1.size : Int) 0 bt114.2.1 bt114.2.2) else (some (0, bt114.2.1, bt114.2.2)))
set_option maxHeartbeats 8000000 in
set_option maxRecDepth 100000 in
theorem pack_Reader_Number.calls (k : Nat) (g : Nat) (s0_0 : ByteArray) (s0_1 : Int) (r1 : Int) (r2 : ByteArray) (r3 : Int) (w0 w : World) (hI : IsS88 w0 w g s0_0 s0_1) (hB : Below w0.heap.size w0 w) (h : pack_Reader_Number.f k s0_0 s0_1 = some (r1, r2, r3)) :
    Calls Tryd.prog 53 #[.pointer (some ⟨g, 0, none⟩)] w fun e w' => e = .returned (.int .i64 r1) ∧ IsS88 w0 w' g r2 r3 ∧ Below w0.heap.size w0 w' ∧ KeepBut w w' g none := by
  have HI0 := Aside0.mk hI
  have HK := Aside0.mk (KeepBut.refl w g none)
  have HL := Aside0.mk hB.size
  clear hI
  have HW0 := Aside0.mk hB.size
  have HB := Aside0.mk hB
  clear hB
  have H : ((pack_Reader_works.f s0_0 s0_1).bind fun bt114 => (if bt114.1 = true then (pack_Reader_Number.l0 k 0 (bt114.2.1.size : Int) 0 bt114.2.1 bt114.2.2) else (some (0, bt114.2.1, bt114.2.2)))) = some (r1, r2, r3) := h
  clear h
  replace H := Option.bind_eq_some_iff.mp H
  obtain ⟨⟨t114, t115, t116⟩, A20, H⟩ := H
  replace H : (if t114 = true then (pack_Reader_Number.l0 k 0 (t115.size : Int) 0 t115 t116) else (some (0, t115, t116))) = some (r1, r2, r3) := H
  have A2 := Aside0.mk A20
  clear A20
  by_cases c3 : t114 = true
  · subst c3
    have H1 : (pack_Reader_Number.l0 k 0 (t115.size : Int) 0 t115 t116) = some (r1, r2, r3) := by rw [if_pos rfl] at H; exact H
    clear H
    have H := H1
    clear H1
    have H' := Aside0.mk H
    clear H
    go_enter Tryd.func53, Tryd.ntmps53
    go_wp2_with (first | ((with_reducible refine gate_callee (f := 54) rfl ?_); refine goesL_ (some 7) rfl rfl Tryd.func54 (by kernel_rfl) rfl #[.pointer (some ⟨g, 0, none⟩)] rfl (by (try simp only [List.map_toArray, List.map_cons, List.map_nil]); first | done | rfl | (simp only [List.length_drop, List.length_take]; rfl)) ?_; (with_reducible refine (pack_Reader_works.calls g s0_0 s0_1 true t115 t116 w0 _ ?side1 ?side2 A2.out).mono ?_); (case side1 => repeat (first | (with_reducible first | exact HI0.out | apply IsS88.alloc | apply IsS88.drewN | apply IsS88.drew | apply IsS88.set_0 | apply IsS88.set_1) | exact HI0.out)); (case side2 => repeat (first | (with_reducible first | exact HB.out | apply below_alloc | apply pw_below_drewN | apply below_drew1 | refine below_set ?_ (IsS88.ge HI0.out)) | exact HB.out)); rintro e w4 ⟨rfl, hi, hb, hk⟩; refine ⟨_, rfl, ?_⟩; have n0_ := Aside0.mk (KeepBut.trans (by repeat (first | (with_reducible first | exact HK.out | apply KeepBut.set_ | apply keep_drewN | apply keep_drew | apply keep_alloc) | exact HK.out)) hk (.inl rfl)); have n1_ := Aside0.mk (hb); have n2_ := Aside0.mk (hi); clear HK; clear HB; clear HI0; have HK := n0_; have HB := n1_; have HI0 := n2_; clear n0_ n1_ n2_; (try clear hb); (try clear hb2); (try clear hk); (try clear hi); obtain ⟨HGz5, hgz5⟩ := HI0.out; have hcz5_0 := cellS88_0 HGz5; have hcz5_1 := cellS88_1 HGz5; have hfz5_0 := blk_frozen HGz5 0; have hfz5_1 := blk_frozen HGz5 1; clear HGz5 hgz5))
    go_loopg [3, 14] k (fun kq v3 v14 w' => ∃ (x3_1 : Int) (x14_1 : Int) (x1000_1 : ByteArray) (x1001_1 : Int), v3 = .int .i64 x3_1 ∧ v14 = .int .i64 x14_1 ∧ Aside0 (pack_Reader_Number.l0 kq x3_1 (t115.size : Int) x14_1 x1000_1 x1001_1 = some (r1, r2, r3)) ∧ Aside0 (kq ≤ k) ∧ Aside0 (IsS88 w0 w' g x1000_1 x1001_1) ∧ Aside0 (KeepBut w w' g none) ∧ Aside0 (Below w0.heap.size w0 w'))
    case atStart => exact ⟨(0), (0), (t115), (t116), (by first | rfl | (simp; done) | (simp [*]; done)), (by first | rfl | (simp; done) | (simp [*]; done)), H', ⟨Nat.le_refl _⟩, ⟨by repeat (first | (with_reducible first | exact HI0.out | apply IsS88.alloc | apply IsS88.drewN | apply IsS88.drew | apply IsS88.set_0 | apply IsS88.set_1) | exact HI0.out)⟩, ⟨by repeat (first | (with_reducible first | exact HK.out | apply KeepBut.set_ | apply keep_drewN | apply keep_drew | apply keep_alloc) | exact HK.out)⟩, ⟨by repeat (first | (with_reducible first | exact HB.out | apply below_alloc | apply pw_below_drewN | apply below_drew1 | refine below_set ?_ (IsS88.ge HI0.out)) | exact HB.out)⟩⟩
    case round =>
      clear H'
      try clear p2
      try clear c3
      try clear c5
      try clear hcz5_0
      try clear hcz5_1
      try clear hfz5_0
      try clear hfz5_1
      obtain ⟨x3_1, x14_1, x1000_1, x1001_1, rfl, rfl, HA, HK1, HI0, HK, HB⟩ := hrel
      cases gk with
      | zero => exact absurd HA.out (by simp [pack_Reader_Number.l0])
      | succ k1 =>
        have H := HA.out
        clear HA
        simp only [pack_Reader_Number.l0] at H
        by_cases c6 : x14_1 < (t115.size : Int)
        · rw [if_pos c6] at H
          have c6b0 : decide (x14_1 < (t115.size : Int)) = true := decide_eq_true c6
          clear c6
          by_cases c7 : 0 ≤ x14_1
          · rw [if_pos c7] at H
            have c7b0 : decide (0 ≤ x14_1) = true := decide_eq_true c7
            clear c7
            by_cases c8 : x14_1 < (x1000_1.size : Int)
            · rw [if_pos c8] at H
              have c8b0 : decide (x14_1 < (x1000_1.size : Int)) = true := decide_eq_true c8
              clear c8
              by_cases c10 : (bt x1000_1 x14_1) ≥ 128
              · rw [if_pos c10] at H
                have c10b0 : decide (128 ≤ (bt x1000_1 x14_1)) = true := decide_eq_true c10
                clear c10
                by_cases c11 : x14_1 = 7
                · rw [if_pos c11] at H
                  have c11b0 : (x14_1 == 7) = true := beq_iff_eq.mpr c11
                  have c11b1 : (x14_1 != 7) = false := bne_eq_false_iff_eq.mpr c11
                  clear c11
                  replace H := Option.bind_eq_some_iff.mp H
                  obtain ⟨⟨t119, t120⟩, A120, H⟩ := H
                  replace H : (some (0, t119, t120)) = some (r1, r2, r3) := H
                  have A12 := Aside0.mk A120
                  clear A120
                  simp only [Option.some.injEq, Prod.mk.injEq] at H
                  obtain ⟨rfl, rfl, rfl⟩ := H
                  obtain ⟨HGz13, hgz13⟩ := HI0.out
                  have hcz13_0 := cellS88_0 HGz13
                  have hcz13_1 := cellS88_1 HGz13
                  have hfz13_0 := blk_frozen HGz13 0
                  have hfz13_1 := blk_frozen HGz13 1
                  clear HGz13 hgz13
                  have p9 : 0 ≤ (x14_1 : Int) := of_decide_eq_true (by first | (with_reducible assumption) | assumption)
                  have q9 : x14_1 < (x1000_1.size : Int) := of_decide_eq_true (by first | (with_reducible assumption) | assumption)
                  have hx9 := bt_at x1000_1 x14_1
                  replace p9 := eq_true p9
                  replace q9 := eq_true q9
                  go_wp2_with (first | ((with_reducible refine gate_callee (f := 55) rfl ?_); refine goesL_ (some 28) rfl rfl Tryd.func55 (by kernel_rfl) rfl #[.pointer (some ⟨g, 0, none⟩), .int .i64 4] rfl (by (try simp only [List.map_toArray, List.map_cons, List.map_nil]); first | done | rfl | (simp only [List.length_drop, List.length_take]; rfl)) ?_; (with_reducible refine (pack_Reader_wrong.calls g x1000_1 x1001_1 4 t119 t120 w0 _ ?side1 ?side2 A12.out).mono ?_); (case side1 => repeat (first | (with_reducible first | exact HI0.out | apply IsS88.alloc | apply IsS88.drewN | apply IsS88.drew | apply IsS88.set_0 | apply IsS88.set_1) | exact HI0.out)); (case side2 => repeat (first | (with_reducible first | exact HB.out | apply below_alloc | apply pw_below_drewN | apply below_drew1 | refine below_set ?_ (IsS88.ge HI0.out)) | exact HB.out)); rintro e w14 ⟨rfl, hi, hb, hk⟩; refine ⟨_, rfl, ?_⟩; have n0_ := Aside0.mk (KeepBut.trans (by repeat (first | (with_reducible first | exact HK.out | apply KeepBut.set_ | apply keep_drewN | apply keep_drew | apply keep_alloc) | exact HK.out)) hk (.inl rfl)); have n1_ := Aside0.mk (hb); have n2_ := Aside0.mk (hi); clear HK; clear HB; clear HI0; have HK := n0_; have HB := n1_; have HI0 := n2_; clear n0_ n1_ n2_; (try clear hb); (try clear hb2); (try clear hk); (try clear hi)))
                  go_ret
                  exact ⟨by first | rfl | (simp [errW_none, errW_some] <;> rfl) | (simp [*, errW_none, errW_some] <;> rfl), by repeat (first | (with_reducible first | exact HI0.out | apply IsS88.alloc | apply IsS88.drewN | apply IsS88.drew | apply IsS88.set_0 | apply IsS88.set_1) | exact HI0.out), by repeat (first | (with_reducible first | exact HB.out | apply below_alloc | apply pw_below_drewN | apply below_drew1 | refine below_set ?_ (IsS88.ge HI0.out)) | exact HB.out), by repeat (first | (with_reducible first | exact HK.out | apply KeepBut.set_ | apply keep_drewN | apply keep_drew | apply keep_alloc) | exact HK.out)⟩
                · rw [if_neg c11] at H
                  have c11b0 : (x14_1 == 7) = false := beq_eq_false_iff_ne.mpr c11
                  have c11b1 : (x14_1 != 7) = true := bne_iff_ne.mpr c11
                  obtain ⟨ji15, hji15⟩ : ∃ j_ : Int, (wrap64 (7 * x14_1)) = j_ := ⟨_, rfl⟩
                  replace H : (if 0 ≤ (ji15) then (pack_Reader_Number.l0 k1 (Go.bits .or .i64 x3_1 (shl .i64 (((bt x1000_1 x14_1) - 128) % 256) (ji15))) (t115.size : Int) (wrap64 (x14_1 + 1)) x1000_1 x1001_1) else (none)) = some (r1, r2, r3) := by first | (rw [hji15] at H; exact H) | (simp only [hji15] at H ⊢; exact H)
                  have hji15w : (IntKind.i64.wrap (7 * x14_1)) = ji15 := (i64_w _).trans hji15
                  by_cases c16 : 0 ≤ (ji15)
                  · rw [if_pos c16] at H
                    have c16b0 := eq_true c16
                    have c16b1 : decide (0 ≤ (ji15)) = true := decide_eq_true c16
                    clear c16
                    obtain ⟨ji17, hji17⟩ : ∃ j_ : Int, (shl .i64 (((bt x1000_1 x14_1) - 128) % 256) (ji15)) = j_ := ⟨_, rfl⟩
                    replace H : (pack_Reader_Number.l0 k1 (Go.bits .or .i64 x3_1 (ji17)) (t115.size : Int) (wrap64 (x14_1 + 1)) x1000_1 x1001_1) = some (r1, r2, r3) := by first | (rw [hji17] at H; exact H) | (simp only [hji17] at H ⊢; exact H)
                    have hji17_ : (IntKind.i64.wrap ((((bt x1000_1 x14_1) - 128) % 256) * 2 ^ min (ji15).toNat 64)) = ji17 := hji17
                    have hji17z : (ji15) ≤ 64 → (IntKind.i64.wrap ((((bt x1000_1 x14_1) - 128) % 256) * 2 ^ (ji15).toNat)) = ji17 := shl_small hji17
                    have hji17y : (wrap64 ((((bt x1000_1 x14_1) - 128) % 256) * 2 ^ min (ji15).toNat 64)) = ji17 := (i64_w _).symm.trans hji17_
                    have hji17x : (ji15) ≤ 64 → (wrap64 ((((bt x1000_1 x14_1) - 128) % 256) * 2 ^ (ji15).toNat)) = ji17 := fun h_ => (i64_w _).symm.trans (hji17z h_)
                    have H' := Aside0.mk H
                    clear H
                    obtain ⟨HGz18, hgz18⟩ := HI0.out
                    have hcz18_0 := cellS88_0 HGz18
                    have hcz18_1 := cellS88_1 HGz18
                    have hfz18_0 := blk_frozen HGz18 0
                    have hfz18_1 := blk_frozen HGz18 1
                    clear HGz18 hgz18
                    have p9 : 0 ≤ (x14_1 : Int) := of_decide_eq_true (by first | (with_reducible assumption) | assumption)
                    have q9 : x14_1 < (x1000_1.size : Int) := of_decide_eq_true (by first | (with_reducible assumption) | assumption)
                    have hx9 := bt_at x1000_1 x14_1
                    replace p9 := eq_true p9
                    replace q9 := eq_true q9
                    go_wp2
                    go_roundg k1
                    case measure => have := HK1.out; omega
                    case rel => exact ⟨(Go.bits .or .i64 x3_1 (ji17)), (wrap64 (x14_1 + 1)), (x1000_1), (x1001_1), (by first | rfl | (simp; done) | (simp only [← hji17] <;> (first | rfl | simp)) | (simp [*]; done)), (by first | rfl | (simp; done) | (simp [*]; done)), H', ⟨by have := HK1.out; omega⟩, ⟨by repeat (first | (with_reducible first | exact HI0.out | apply IsS88.alloc | apply IsS88.drewN | apply IsS88.drew | apply IsS88.set_0 | apply IsS88.set_1) | exact HI0.out)⟩, ⟨by repeat (first | (with_reducible first | exact HK.out | apply KeepBut.set_ | apply keep_drewN | apply keep_drew | apply keep_alloc) | exact HK.out)⟩, ⟨by repeat (first | (with_reducible first | exact HB.out | apply below_alloc | apply pw_below_drewN | apply below_drew1 | refine below_set ?_ (IsS88.ge HI0.out)) | exact HB.out)⟩⟩
                  · rw [if_neg c16] at H
                    exact absurd H (by simp)
              · rw [if_neg c10] at H
                have c10b0 : decide (128 ≤ (bt x1000_1 x14_1)) = false := decide_eq_false c10
                clear c10
                by_cases c19 : (bt x1000_1 x14_1) = 0
                · rw [if_pos c19] at H
                  have c19b0 : ((bt x1000_1 x14_1) == 0) = true := beq_iff_eq.mpr c19
                  have c19b1 : ((bt x1000_1 x14_1) != 0) = false := bne_eq_false_iff_eq.mpr c19
                  clear c19
                  by_cases c20 : x14_1 > 0
                  · rw [if_pos c20] at H
                    have c20b0 : decide (0 < x14_1) = true := decide_eq_true c20
                    clear c20
                    replace H := Option.bind_eq_some_iff.mp H
                    obtain ⟨⟨t121, t122⟩, A210, H⟩ := H
                    replace H : (some (0, t121, t122)) = some (r1, r2, r3) := H
                    have A21 := Aside0.mk A210
                    clear A210
                    simp only [Option.some.injEq, Prod.mk.injEq] at H
                    obtain ⟨rfl, rfl, rfl⟩ := H
                    obtain ⟨HGz22, hgz22⟩ := HI0.out
                    have hcz22_0 := cellS88_0 HGz22
                    have hcz22_1 := cellS88_1 HGz22
                    have hfz22_0 := blk_frozen HGz22 0
                    have hfz22_1 := blk_frozen HGz22 1
                    clear HGz22 hgz22
                    have p9 : 0 ≤ (x14_1 : Int) := of_decide_eq_true (by first | (with_reducible assumption) | assumption)
                    have q9 : x14_1 < (x1000_1.size : Int) := of_decide_eq_true (by first | (with_reducible assumption) | assumption)
                    have hx9 := bt_at x1000_1 x14_1
                    replace p9 := eq_true p9
                    replace q9 := eq_true q9
                    go_wp2_with (first | ((with_reducible refine gate_callee (f := 55) rfl ?_); refine goesL_ (some 44) rfl rfl Tryd.func55 (by kernel_rfl) rfl #[.pointer (some ⟨g, 0, none⟩), .int .i64 4] rfl (by (try simp only [List.map_toArray, List.map_cons, List.map_nil]); first | done | rfl | (simp only [List.length_drop, List.length_take]; rfl)) ?_; (with_reducible refine (pack_Reader_wrong.calls g x1000_1 x1001_1 4 t121 t122 w0 _ ?side1 ?side2 A21.out).mono ?_); (case side1 => repeat (first | (with_reducible first | exact HI0.out | apply IsS88.alloc | apply IsS88.drewN | apply IsS88.drew | apply IsS88.set_0 | apply IsS88.set_1) | exact HI0.out)); (case side2 => repeat (first | (with_reducible first | exact HB.out | apply below_alloc | apply pw_below_drewN | apply below_drew1 | refine below_set ?_ (IsS88.ge HI0.out)) | exact HB.out)); rintro e w23 ⟨rfl, hi, hb, hk⟩; refine ⟨_, rfl, ?_⟩; have n0_ := Aside0.mk (KeepBut.trans (by repeat (first | (with_reducible first | exact HK.out | apply KeepBut.set_ | apply keep_drewN | apply keep_drew | apply keep_alloc) | exact HK.out)) hk (.inl rfl)); have n1_ := Aside0.mk (hb); have n2_ := Aside0.mk (hi); clear HK; clear HB; clear HI0; have HK := n0_; have HB := n1_; have HI0 := n2_; clear n0_ n1_ n2_; (try clear hb); (try clear hb2); (try clear hk); (try clear hi)))
                    go_ret
                    exact ⟨by first | rfl | (simp [errW_none, errW_some] <;> rfl) | (simp [*, errW_none, errW_some] <;> rfl), by repeat (first | (with_reducible first | exact HI0.out | apply IsS88.alloc | apply IsS88.drewN | apply IsS88.drew | apply IsS88.set_0 | apply IsS88.set_1) | exact HI0.out), by repeat (first | (with_reducible first | exact HB.out | apply below_alloc | apply pw_below_drewN | apply below_drew1 | refine below_set ?_ (IsS88.ge HI0.out)) | exact HB.out), by repeat (first | (with_reducible first | exact HK.out | apply KeepBut.set_ | apply keep_drewN | apply keep_drew | apply keep_alloc) | exact HK.out)⟩
                  · rw [if_neg c20] at H
                    have c20b0 : decide (0 < x14_1) = false := decide_eq_false c20
                    clear c20
                    obtain ⟨ji24, hji24⟩ : ∃ j_ : Int, (wrap64 (x14_1 + 1)) = j_ := ⟨_, rfl⟩
                    replace H : (if 0 ≤ (ji24) then (if (ji24) ≤ (x1000_1.size : Int) then (if 0 ≤ (wrap64 (7 * x14_1)) then (some (Go.bits .or .i64 x3_1 (shl .i64 (wrap64 (bt x1000_1 x14_1)) (wrap64 (7 * x14_1))), x1000_1.extract ((ji24) : Int).toNat x1000_1.size, x1001_1)) else (none)) else (none)) else (none)) = some (r1, r2, r3) := by first | (rw [hji24] at H; exact H) | (simp only [hji24] at H ⊢; exact H)
                    have hji24w : (IntKind.i64.wrap (x14_1 + 1)) = ji24 := (i64_w _).trans hji24
                    by_cases c25 : 0 ≤ (ji24)
                    · rw [if_pos c25] at H
                      have c25b0 := eq_true c25
                      have c25b1 : decide (0 ≤ (ji24)) = true := decide_eq_true c25
                      clear c25
                      by_cases c26 : (ji24) ≤ (x1000_1.size : Int)
                      · rw [if_pos c26] at H
                        have c26b0 := eq_true c26
                        have c26b1 : decide ((ji24) ≤ (x1000_1.size : Int)) = true := decide_eq_true c26
                        clear c26
                        obtain ⟨ji27, hji27⟩ : ∃ j_ : Int, (wrap64 (7 * x14_1)) = j_ := ⟨_, rfl⟩
                        replace H : (if 0 ≤ (ji27) then (some (Go.bits .or .i64 x3_1 (shl .i64 (wrap64 (bt x1000_1 x14_1)) (ji27)), x1000_1.extract ((ji24) : Int).toNat x1000_1.size, x1001_1)) else (none)) = some (r1, r2, r3) := by first | (rw [hji27] at H; exact H) | (simp only [hji27] at H ⊢; exact H)
                        have hji27w : (IntKind.i64.wrap (7 * x14_1)) = ji27 := (i64_w _).trans hji27
                        by_cases c28 : 0 ≤ (ji27)
                        · rw [if_pos c28] at H
                          have c28b0 := eq_true c28
                          have c28b1 : decide (0 ≤ (ji27)) = true := decide_eq_true c28
                          clear c28
                          obtain ⟨ji29, hji29⟩ : ∃ j_ : Int, (shl .i64 (wrap64 (bt x1000_1 x14_1)) (ji27)) = j_ := ⟨_, rfl⟩
                          replace H : (some (Go.bits .or .i64 x3_1 (ji29), x1000_1.extract ((ji24) : Int).toNat x1000_1.size, x1001_1)) = some (r1, r2, r3) := by first | (rw [hji29] at H; exact H) | (simp only [hji29] at H ⊢; exact H)
                          have hji29_ : (IntKind.i64.wrap ((wrap64 (bt x1000_1 x14_1)) * 2 ^ min (ji27).toNat 64)) = ji29 := hji29
                          have hji29z : (ji27) ≤ 64 → (IntKind.i64.wrap ((wrap64 (bt x1000_1 x14_1)) * 2 ^ (ji27).toNat)) = ji29 := shl_small hji29
                          have hji29y : (wrap64 ((wrap64 (bt x1000_1 x14_1)) * 2 ^ min (ji27).toNat 64)) = ji29 := (i64_w _).symm.trans hji29_
                          have hji29x : (ji27) ≤ 64 → (wrap64 ((wrap64 (bt x1000_1 x14_1)) * 2 ^ (ji27).toNat)) = ji29 := fun h_ => (i64_w _).symm.trans (hji29z h_)
                          simp only [Option.some.injEq, Prod.mk.injEq] at H
                          obtain ⟨rfl, rfl, rfl⟩ := H
                          obtain ⟨HGz30, hgz30⟩ := HI0.out
                          have hcz30_0 := cellS88_0 HGz30
                          have hcz30_1 := cellS88_1 HGz30
                          have hfz30_0 := blk_frozen HGz30 0
                          have hfz30_1 := blk_frozen HGz30 1
                          clear HGz30 hgz30
                          have p9 : 0 ≤ (x14_1 : Int) := of_decide_eq_true (by first | (with_reducible assumption) | assumption)
                          have q9 : x14_1 < (x1000_1.size : Int) := of_decide_eq_true (by first | (with_reducible assumption) | assumption)
                          have hx9 := bt_at x1000_1 x14_1
                          replace p9 := eq_true p9
                          replace q9 := eq_true q9
                          go_wp2
                          go_ret
                          exact ⟨by first | rfl | (simp [errW_none, errW_some] <;> rfl) | (simp only [← hji24, ← hji27, ← hji29]; first | rfl | (simp [errW_none, errW_some] <;> rfl)) | (simp [*, errW_none, errW_some] <;> rfl), by repeat (first | (with_reducible first | exact HI0.out | apply IsS88.alloc | apply IsS88.drewN | apply IsS88.drew | apply IsS88.set_0 | apply IsS88.set_1) | exact HI0.out), by repeat (first | (with_reducible first | exact HB.out | apply below_alloc | apply pw_below_drewN | apply below_drew1 | refine below_set ?_ (IsS88.ge HI0.out)) | exact HB.out), by repeat (first | (with_reducible first | exact HK.out | apply KeepBut.set_ | apply keep_drewN | apply keep_drew | apply keep_alloc) | exact HK.out)⟩
                        · rw [if_neg c28] at H
                          exact absurd H (by simp)
                      · rw [if_neg c26] at H
                        exact absurd H (by simp)
                    · rw [if_neg c25] at H
                      exact absurd H (by simp)
                · rw [if_neg c19] at H
                  have c19b0 : ((bt x1000_1 x14_1) == 0) = false := beq_eq_false_iff_ne.mpr c19
                  have c19b1 : ((bt x1000_1 x14_1) != 0) = true := bne_iff_ne.mpr c19
                  obtain ⟨ji31, hji31⟩ : ∃ j_ : Int, (wrap64 (x14_1 + 1)) = j_ := ⟨_, rfl⟩
                  replace H : (if 0 ≤ (ji31) then (if (ji31) ≤ (x1000_1.size : Int) then (if 0 ≤ (wrap64 (7 * x14_1)) then (some (Go.bits .or .i64 x3_1 (shl .i64 (wrap64 (bt x1000_1 x14_1)) (wrap64 (7 * x14_1))), x1000_1.extract ((ji31) : Int).toNat x1000_1.size, x1001_1)) else (none)) else (none)) else (none)) = some (r1, r2, r3) := by first | (rw [hji31] at H; exact H) | (simp only [hji31] at H ⊢; exact H)
                  have hji31w : (IntKind.i64.wrap (x14_1 + 1)) = ji31 := (i64_w _).trans hji31
                  by_cases c32 : 0 ≤ (ji31)
                  · rw [if_pos c32] at H
                    have c32b0 := eq_true c32
                    have c32b1 : decide (0 ≤ (ji31)) = true := decide_eq_true c32
                    clear c32
                    by_cases c33 : (ji31) ≤ (x1000_1.size : Int)
                    · rw [if_pos c33] at H
                      have c33b0 := eq_true c33
                      have c33b1 : decide ((ji31) ≤ (x1000_1.size : Int)) = true := decide_eq_true c33
                      clear c33
                      obtain ⟨ji34, hji34⟩ : ∃ j_ : Int, (wrap64 (7 * x14_1)) = j_ := ⟨_, rfl⟩
                      replace H : (if 0 ≤ (ji34) then (some (Go.bits .or .i64 x3_1 (shl .i64 (wrap64 (bt x1000_1 x14_1)) (ji34)), x1000_1.extract ((ji31) : Int).toNat x1000_1.size, x1001_1)) else (none)) = some (r1, r2, r3) := by first | (rw [hji34] at H; exact H) | (simp only [hji34] at H ⊢; exact H)
                      have hji34w : (IntKind.i64.wrap (7 * x14_1)) = ji34 := (i64_w _).trans hji34
                      by_cases c35 : 0 ≤ (ji34)
                      · rw [if_pos c35] at H
                        have c35b0 := eq_true c35
                        have c35b1 : decide (0 ≤ (ji34)) = true := decide_eq_true c35
                        clear c35
                        obtain ⟨ji36, hji36⟩ : ∃ j_ : Int, (shl .i64 (wrap64 (bt x1000_1 x14_1)) (ji34)) = j_ := ⟨_, rfl⟩
                        replace H : (some (Go.bits .or .i64 x3_1 (ji36), x1000_1.extract ((ji31) : Int).toNat x1000_1.size, x1001_1)) = some (r1, r2, r3) := by first | (rw [hji36] at H; exact H) | (simp only [hji36] at H ⊢; exact H)
                        have hji36_ : (IntKind.i64.wrap ((wrap64 (bt x1000_1 x14_1)) * 2 ^ min (ji34).toNat 64)) = ji36 := hji36
                        have hji36z : (ji34) ≤ 64 → (IntKind.i64.wrap ((wrap64 (bt x1000_1 x14_1)) * 2 ^ (ji34).toNat)) = ji36 := shl_small hji36
                        have hji36y : (wrap64 ((wrap64 (bt x1000_1 x14_1)) * 2 ^ min (ji34).toNat 64)) = ji36 := (i64_w _).symm.trans hji36_
                        have hji36x : (ji34) ≤ 64 → (wrap64 ((wrap64 (bt x1000_1 x14_1)) * 2 ^ (ji34).toNat)) = ji36 := fun h_ => (i64_w _).symm.trans (hji36z h_)
                        simp only [Option.some.injEq, Prod.mk.injEq] at H
                        obtain ⟨rfl, rfl, rfl⟩ := H
                        obtain ⟨HGz37, hgz37⟩ := HI0.out
                        have hcz37_0 := cellS88_0 HGz37
                        have hcz37_1 := cellS88_1 HGz37
                        have hfz37_0 := blk_frozen HGz37 0
                        have hfz37_1 := blk_frozen HGz37 1
                        clear HGz37 hgz37
                        have p9 : 0 ≤ (x14_1 : Int) := of_decide_eq_true (by first | (with_reducible assumption) | assumption)
                        have q9 : x14_1 < (x1000_1.size : Int) := of_decide_eq_true (by first | (with_reducible assumption) | assumption)
                        have hx9 := bt_at x1000_1 x14_1
                        replace p9 := eq_true p9
                        replace q9 := eq_true q9
                        go_wp2
                        go_ret
                        exact ⟨by first | rfl | (simp [errW_none, errW_some] <;> rfl) | (simp only [← hji31, ← hji34, ← hji36]; first | rfl | (simp [errW_none, errW_some] <;> rfl)) | (simp [*, errW_none, errW_some] <;> rfl), by repeat (first | (with_reducible first | exact HI0.out | apply IsS88.alloc | apply IsS88.drewN | apply IsS88.drew | apply IsS88.set_0 | apply IsS88.set_1) | exact HI0.out), by repeat (first | (with_reducible first | exact HB.out | apply below_alloc | apply pw_below_drewN | apply below_drew1 | refine below_set ?_ (IsS88.ge HI0.out)) | exact HB.out), by repeat (first | (with_reducible first | exact HK.out | apply KeepBut.set_ | apply keep_drewN | apply keep_drew | apply keep_alloc) | exact HK.out)⟩
                      · rw [if_neg c35] at H
                        exact absurd H (by simp)
                    · rw [if_neg c33] at H
                      exact absurd H (by simp)
                  · rw [if_neg c32] at H
                    exact absurd H (by simp)
            · rw [if_neg c8] at H
              exact absurd H (by simp)
          · rw [if_neg c7] at H
            exact absurd H (by simp)
        · rw [if_neg c6] at H
          have c6b0 : decide (x14_1 < (t115.size : Int)) = false := decide_eq_false c6
          clear c6
          replace H := Option.bind_eq_some_iff.mp H
          obtain ⟨⟨t117, t118⟩, A380, H⟩ := H
          replace H : (some (0, t117, t118)) = some (r1, r2, r3) := H
          have A38 := Aside0.mk A380
          clear A380
          simp only [Option.some.injEq, Prod.mk.injEq] at H
          obtain ⟨rfl, rfl, rfl⟩ := H
          go_wp2_with (first | ((with_reducible refine gate_callee (f := 55) rfl ?_); refine goesL_ (some 64) rfl rfl Tryd.func55 (by kernel_rfl) rfl #[.pointer (some ⟨g, 0, none⟩), .int .i64 3] rfl (by (try simp only [List.map_toArray, List.map_cons, List.map_nil]); first | done | rfl | (simp only [List.length_drop, List.length_take]; rfl)) ?_; (with_reducible refine (pack_Reader_wrong.calls g x1000_1 x1001_1 3 t117 t118 w0 _ ?side1 ?side2 A38.out).mono ?_); (case side1 => repeat (first | (with_reducible first | exact HI0.out | apply IsS88.alloc | apply IsS88.drewN | apply IsS88.drew | apply IsS88.set_0 | apply IsS88.set_1) | exact HI0.out)); (case side2 => repeat (first | (with_reducible first | exact HB.out | apply below_alloc | apply pw_below_drewN | apply below_drew1 | refine below_set ?_ (IsS88.ge HI0.out)) | exact HB.out)); rintro e w39 ⟨rfl, hi, hb, hk⟩; refine ⟨_, rfl, ?_⟩; have n0_ := Aside0.mk (KeepBut.trans (by repeat (first | (with_reducible first | exact HK.out | apply KeepBut.set_ | apply keep_drewN | apply keep_drew | apply keep_alloc) | exact HK.out)) hk (.inl rfl)); have n1_ := Aside0.mk (hb); have n2_ := Aside0.mk (hi); clear HK; clear HB; clear HI0; have HK := n0_; have HB := n1_; have HI0 := n2_; clear n0_ n1_ n2_; (try clear hb); (try clear hb2); (try clear hk); (try clear hi)))
          go_ret
          exact ⟨by first | rfl | (simp [errW_none, errW_some] <;> rfl) | (simp [*, errW_none, errW_some] <;> rfl), by repeat (first | (with_reducible first | exact HI0.out | apply IsS88.alloc | apply IsS88.drewN | apply IsS88.drew | apply IsS88.set_0 | apply IsS88.set_1) | exact HI0.out), by repeat (first | (with_reducible first | exact HB.out | apply below_alloc | apply pw_below_drewN | apply below_drew1 | refine below_set ?_ (IsS88.ge HI0.out)) | exact HB.out), by repeat (first | (with_reducible first | exact HK.out | apply KeepBut.set_ | apply keep_drewN | apply keep_drew | apply keep_alloc) | exact HK.out)⟩
  · replace c3 := Bool.eq_false_iff.mpr c3
    subst c3
    have H1 : (some (0, t115, t116)) = some (r1, r2, r3) := by rw [if_neg (show ¬ (false = true) by decide)] at H; exact H
    clear H
    have H := H1
    clear H1
    simp only [Option.some.injEq, Prod.mk.injEq] at H
    obtain ⟨rfl, rfl, rfl⟩ := H
    go_enter Tryd.func53, Tryd.ntmps53
    go_wp2_with (first | ((with_reducible refine gate_callee (f := 54) rfl ?_); refine goesL_ (some 7) rfl rfl Tryd.func54 (by kernel_rfl) rfl #[.pointer (some ⟨g, 0, none⟩)] rfl (by (try simp only [List.map_toArray, List.map_cons, List.map_nil]); first | done | rfl | (simp only [List.length_drop, List.length_take]; rfl)) ?_; (with_reducible refine (pack_Reader_works.calls g s0_0 s0_1 false t115 t116 w0 _ ?side1 ?side2 A2.out).mono ?_); (case side1 => repeat (first | (with_reducible first | exact HI0.out | apply IsS88.alloc | apply IsS88.drewN | apply IsS88.drew | apply IsS88.set_0 | apply IsS88.set_1) | exact HI0.out)); (case side2 => repeat (first | (with_reducible first | exact HB.out | apply below_alloc | apply pw_below_drewN | apply below_drew1 | refine below_set ?_ (IsS88.ge HI0.out)) | exact HB.out)); rintro e w40 ⟨rfl, hi, hb, hk⟩; refine ⟨_, rfl, ?_⟩; have n0_ := Aside0.mk (KeepBut.trans (by repeat (first | (with_reducible first | exact HK.out | apply KeepBut.set_ | apply keep_drewN | apply keep_drew | apply keep_alloc) | exact HK.out)) hk (.inl rfl)); have n1_ := Aside0.mk (hb); have n2_ := Aside0.mk (hi); clear HK; clear HB; clear HI0; have HK := n0_; have HB := n1_; have HI0 := n2_; clear n0_ n1_ n2_; (try clear hb); (try clear hb2); (try clear hk); (try clear hi)))
    go_ret
    exact ⟨by first | rfl | (simp [errW_none, errW_some] <;> rfl) | (simp [*, errW_none, errW_some] <;> rfl), by repeat (first | (with_reducible first | exact HI0.out | apply IsS88.alloc | apply IsS88.drewN | apply IsS88.drew | apply IsS88.set_0 | apply IsS88.set_1) | exact HI0.out), by repeat (first | (with_reducible first | exact HB.out | apply below_alloc | apply pw_below_drewN | apply below_drew1 | refine below_set ?_ (IsS88.ge HI0.out)) | exact HB.out), by repeat (first | (with_reducible first | exact HK.out | apply KeepBut.set_ | apply keep_drewN | apply keep_drew | apply keep_alloc) | exact HK.out)⟩
end Go.Proofs.YtpgfafpjfdbjmaaDoor.Q
end
section
namespace Go.Proofs.YtpgfafpjfdbjmaaDoor.Q
open Go.RowKit Go.Proofs.YtpgfafpjfdbjmaaDoorW.PrintWords Go.Proofs.YtpgfafpjfdbjmaaDoorW.PrintLast Go.Proofs.YtpgfafpjfdbjmaaDoorW.PrintMore
attribute [local go_sem] max2_int min2_int max_two min_two max_three min_three max_four min_four   -- for this text's walks alone
set_option linter.unusedVariables false
set_option linter.unusedSimpArgs false
def pack_Reader_Text.j0 : Nat → Int → Bool → ByteArray → Int → Option (ByteArray × ByteArray × Int)
  | 0, _, _, _, _ => none
  | k + 1, x3, x17, x1000, x1001 => if x17 = true then ((pack_Reader_wrong.f x1000 x1001 3).bind fun bt129 => ((pack_Reader_works.f bt129.1 bt129.2).bind fun bt131 => (if bt131.1 = true then (if 0 ≤ x3 then (if x3 ≤ (bt131.2.1.size : Int) then (some (bt131.2.1.extract 0 (x3 : Int).toNat, bt131.2.1.extract (x3 : Int).toNat bt131.2.1.size, bt131.2.2)) else (none)) else (none)) else (some ((⟨#[]⟩ : ByteArray), bt131.2.1, bt131.2.2))))) else ((pack_Reader_works.f x1000 x1001).bind fun bt134 => (if bt134.1 = true then (if 0 ≤ x3 then (if x3 ≤ (bt134.2.1.size : Int) then (some (bt134.2.1.extract 0 (x3 : Int).toNat, bt134.2.1.extract (x3 : Int).toNat bt134.2.1.size, bt134.2.2)) else (none)) else (none)) else (some ((⟨#[]⟩ : ByteArray), bt134.2.1, bt134.2.2))))
def pack_Reader_Text.f (k : Nat) (s0_0 : ByteArray) (s0_1 : Int) : Option (ByteArray × ByteArray × Int) := (pack_Reader_Number.f k s0_0 s0_1).bind fun bt123 => ((pack_Reader_works.f bt123.2.1 bt123.2.2).bind fun bt126 => (if bt126.1 = true then (pack_Reader_Text.j0 k bt123.1 (decide (bt123.1 > (bt126.2.1.size : Int))) bt126.2.1 bt126.2.2) else (pack_Reader_Text.j0 k bt123.1 false bt126.2.1 bt126.2.2)))
set_option maxHeartbeats 8000000 in
set_option maxRecDepth 100000 in
theorem pack_Reader_Text.calls (k : Nat) (g : Nat) (s0_0 : ByteArray) (s0_1 : Int) (r1 : ByteArray) (r2 : ByteArray) (r3 : Int) (w0 w : World) (hI : IsS88 w0 w g s0_0 s0_1) (hB : Below w0.heap.size w0 w) (h : pack_Reader_Text.f k s0_0 s0_1 = some (r1, r2, r3)) :
    Calls Tryd.prog 36 #[.pointer (some ⟨g, 0, none⟩)] w fun e w' => e = .returned (.string r1) ∧ IsS88 w0 w' g r2 r3 ∧ Below w0.heap.size w0 w' ∧ KeepBut w w' g none := by
  have HI0 := Aside0.mk hI
  have HK := Aside0.mk (KeepBut.refl w g none)
  have HL := Aside0.mk hB.size
  clear hI
  have HW0 := Aside0.mk hB.size
  have HB := Aside0.mk hB
  clear hB
  have H : ((pack_Reader_Number.f k s0_0 s0_1).bind fun bt123 => ((pack_Reader_works.f bt123.2.1 bt123.2.2).bind fun bt126 => (if bt126.1 = true then (pack_Reader_Text.j0 k bt123.1 (decide (bt123.1 > (bt126.2.1.size : Int))) bt126.2.1 bt126.2.2) else (pack_Reader_Text.j0 k bt123.1 false bt126.2.1 bt126.2.2)))) = some (r1, r2, r3) := h
  clear h
  replace H := Option.bind_eq_some_iff.mp H
  obtain ⟨⟨t123, t124, t125⟩, A20, H⟩ := H
  replace H : ((pack_Reader_works.f t124 t125).bind fun bt126 => (if bt126.1 = true then (pack_Reader_Text.j0 k t123 (decide (t123 > (bt126.2.1.size : Int))) bt126.2.1 bt126.2.2) else (pack_Reader_Text.j0 k t123 false bt126.2.1 bt126.2.2))) = some (r1, r2, r3) := H
  have A2 := Aside0.mk A20
  clear A20
  have HC3 := Aside0.mk H
  clear H
  go_enter Tryd.func36, Tryd.ntmps36
  go_upto_region 2 with (first | ((with_reducible refine gate_callee (f := 53) rfl ?_); refine goesL_ (some 6) rfl rfl Tryd.func53 (by kernel_rfl) rfl #[.pointer (some ⟨g, 0, none⟩)] rfl (by (try simp only [List.map_toArray, List.map_cons, List.map_nil]); first | done | rfl | (simp only [List.length_drop, List.length_take]; rfl)) ?_; (with_reducible refine (pack_Reader_Number.calls k g s0_0 s0_1 t123 t124 t125 w0 _ ?side1 ?side2 A2.out).mono ?_); (case side1 => repeat (first | (with_reducible first | exact HI0.out | apply IsS88.alloc | apply IsS88.drewN | apply IsS88.drew | apply IsS88.set_0 | apply IsS88.set_1) | exact HI0.out)); (case side2 => repeat (first | (with_reducible first | exact HB.out | apply below_alloc | apply pw_below_drewN | apply below_drew1 | refine below_set ?_ (IsS88.ge HI0.out)) | exact HB.out)); rintro e w4 ⟨rfl, hi, hb, hk⟩; refine ⟨_, rfl, ?_⟩; have n0_ := Aside0.mk (KeepBut.trans (by repeat (first | (with_reducible first | exact HK.out | apply KeepBut.set_ | apply keep_drewN | apply keep_drew | apply keep_alloc) | exact HK.out)) hk (.inl rfl)); have n1_ := Aside0.mk (hb); have n2_ := Aside0.mk (hi); clear HK; clear HB; clear HI0; have HK := n0_; have HB := n1_; have HI0 := n2_; clear n0_ n1_ n2_; (try clear hb); (try clear hb2); (try clear hk); (try clear hi)))
  (try simp only [Act.put, List.setIfInBounds_toArray, List.set_cons_zero, List.set_cons_succ])
  go_cut [17] (fun v17 wc => ∃ (kq : Nat) (x17_2 : Bool) (x1000_2 : ByteArray) (x1001_2 : Int), v17 = .bool x17_2 ∧ Aside0 (pack_Reader_Text.j0 kq t123 x17_2 x1000_2 x1001_2 = some (r1, r2, r3)) ∧ Aside0 (kq ≤ k) ∧ Aside0 (IsS88 w0 wc g x1000_2 x1001_2) ∧ Aside0 (KeepBut w wc g none) ∧ Aside0 (Below w0.heap.size w0 wc))
  case first =>
    have H := HC3.out
    clear HC3
    replace H := Option.bind_eq_some_iff.mp H
    obtain ⟨⟨t126, t127, t128⟩, A50, H⟩ := H
    replace H : (if t126 = true then (pack_Reader_Text.j0 k t123 (decide (t123 > (t127.size : Int))) t127 t128) else (pack_Reader_Text.j0 k t123 false t127 t128)) = some (r1, r2, r3) := H
    have A5 := Aside0.mk A50
    clear A50
    by_cases c6 : t126 = true
    · subst c6
      have H1 : (pack_Reader_Text.j0 k t123 (decide (t123 > (t127.size : Int))) t127 t128) = some (r1, r2, r3) := by rw [if_pos rfl] at H; exact H
      clear H
      have H := H1
      clear H1
      have H' := Aside0.mk H
      clear H
      go_wp2_with (first | ((with_reducible refine gate_callee (f := 54) rfl ?_); refine goesL_ (some 8) rfl rfl Tryd.func54 (by kernel_rfl) rfl #[.pointer (some ⟨g, 0, none⟩)] rfl (by (try simp only [List.map_toArray, List.map_cons, List.map_nil]); first | done | rfl | (simp only [List.length_drop, List.length_take]; rfl)) ?_; (with_reducible refine (pack_Reader_works.calls g t124 t125 true t127 t128 w0 _ ?side1 ?side2 A5.out).mono ?_); (case side1 => repeat (first | (with_reducible first | exact HI0.out | apply IsS88.alloc | apply IsS88.drewN | apply IsS88.drew | apply IsS88.set_0 | apply IsS88.set_1) | exact HI0.out)); (case side2 => repeat (first | (with_reducible first | exact HB.out | apply below_alloc | apply pw_below_drewN | apply below_drew1 | refine below_set ?_ (IsS88.ge HI0.out)) | exact HB.out)); rintro e w7 ⟨rfl, hi, hb, hk⟩; refine ⟨_, rfl, ?_⟩; have n0_ := Aside0.mk (KeepBut.trans (by repeat (first | (with_reducible first | exact HK.out | apply KeepBut.set_ | apply keep_drewN | apply keep_drew | apply keep_alloc) | exact HK.out)) hk (.inl rfl)); have n1_ := Aside0.mk (hb); have n2_ := Aside0.mk (hi); clear HK; clear HB; clear HI0; have HK := n0_; have HB := n1_; have HI0 := n2_; clear n0_ n1_ n2_; (try clear hb); (try clear hb2); (try clear hk); (try clear hi); obtain ⟨HGz8, hgz8⟩ := HI0.out; have hcz8_0 := cellS88_0 HGz8; have hcz8_1 := cellS88_1 HGz8; have hfz8_0 := blk_frozen HGz8 0; have hfz8_1 := blk_frozen HGz8 1; clear HGz8 hgz8))
      go_meet
      case rel => exact ⟨_, (decide (t123 > (t127.size : Int))), (t127), (t128), (by first | rfl | (simp; done) | (simp [*]; done)), H', ⟨by first | omega | exact Nat.le_refl _⟩, ⟨by repeat (first | (with_reducible first | exact HI0.out | apply IsS88.alloc | apply IsS88.drewN | apply IsS88.drew | apply IsS88.set_0 | apply IsS88.set_1) | exact HI0.out)⟩, ⟨by repeat (first | (with_reducible first | exact HK.out | apply KeepBut.set_ | apply keep_drewN | apply keep_drew | apply keep_alloc) | exact HK.out)⟩, ⟨by repeat (first | (with_reducible first | exact HB.out | apply below_alloc | apply pw_below_drewN | apply below_drew1 | refine below_set ?_ (IsS88.ge HI0.out)) | exact HB.out)⟩⟩
    · replace c6 := Bool.eq_false_iff.mpr c6
      subst c6
      have H1 : (pack_Reader_Text.j0 k t123 false t127 t128) = some (r1, r2, r3) := by rw [if_neg (show ¬ (false = true) by decide)] at H; exact H
      clear H
      have H := H1
      clear H1
      have H' := Aside0.mk H
      clear H
      go_wp2_with (first | ((with_reducible refine gate_callee (f := 54) rfl ?_); refine goesL_ (some 8) rfl rfl Tryd.func54 (by kernel_rfl) rfl #[.pointer (some ⟨g, 0, none⟩)] rfl (by (try simp only [List.map_toArray, List.map_cons, List.map_nil]); first | done | rfl | (simp only [List.length_drop, List.length_take]; rfl)) ?_; (with_reducible refine (pack_Reader_works.calls g t124 t125 false t127 t128 w0 _ ?side1 ?side2 A5.out).mono ?_); (case side1 => repeat (first | (with_reducible first | exact HI0.out | apply IsS88.alloc | apply IsS88.drewN | apply IsS88.drew | apply IsS88.set_0 | apply IsS88.set_1) | exact HI0.out)); (case side2 => repeat (first | (with_reducible first | exact HB.out | apply below_alloc | apply pw_below_drewN | apply below_drew1 | refine below_set ?_ (IsS88.ge HI0.out)) | exact HB.out)); rintro e w9 ⟨rfl, hi, hb, hk⟩; refine ⟨_, rfl, ?_⟩; have n0_ := Aside0.mk (KeepBut.trans (by repeat (first | (with_reducible first | exact HK.out | apply KeepBut.set_ | apply keep_drewN | apply keep_drew | apply keep_alloc) | exact HK.out)) hk (.inl rfl)); have n1_ := Aside0.mk (hb); have n2_ := Aside0.mk (hi); clear HK; clear HB; clear HI0; have HK := n0_; have HB := n1_; have HI0 := n2_; clear n0_ n1_ n2_; (try clear hb); (try clear hb2); (try clear hk); (try clear hi)))
      go_meet
      case rel => exact ⟨_, (false), (t127), (t128), (by first | rfl | (simp; done) | (simp [*]; done)), H', ⟨by first | omega | exact Nat.le_refl _⟩, ⟨by repeat (first | (with_reducible first | exact HI0.out | apply IsS88.alloc | apply IsS88.drewN | apply IsS88.drew | apply IsS88.set_0 | apply IsS88.set_1) | exact HI0.out)⟩, ⟨by repeat (first | (with_reducible first | exact HK.out | apply KeepBut.set_ | apply keep_drewN | apply keep_drew | apply keep_alloc) | exact HK.out)⟩, ⟨by repeat (first | (with_reducible first | exact HB.out | apply below_alloc | apply pw_below_drewN | apply below_drew1 | refine below_set ?_ (IsS88.ge HI0.out)) | exact HB.out)⟩⟩
  case rest =>
    clear HC3
    try clear p2
    try clear c3
    try clear c5
    try clear c6
    try clear hcz8_0
    try clear hcz8_1
    try clear hfz8_0
    try clear hfz8_1
    obtain ⟨kq, x17_2, x1000_2, x1001_2, rfl, HA, HJ2, HI0, HK, HB⟩ := hcut
    cases kq with
    | zero => exact absurd HA.out (by simp [pack_Reader_Text.j0])
    | succ kj2 =>
      have H := HA.out
      clear HA
      simp only [pack_Reader_Text.j0] at H
      by_cases c10 : x17_2 = true
      · subst c10
        have H1 : ((pack_Reader_wrong.f x1000_2 x1001_2 3).bind fun bt129 => ((pack_Reader_works.f bt129.1 bt129.2).bind fun bt131 => (if bt131.1 = true then (if 0 ≤ t123 then (if t123 ≤ (bt131.2.1.size : Int) then (some (bt131.2.1.extract 0 (t123 : Int).toNat, bt131.2.1.extract (t123 : Int).toNat bt131.2.1.size, bt131.2.2)) else (none)) else (none)) else (some ((⟨#[]⟩ : ByteArray), bt131.2.1, bt131.2.2))))) = some (r1, r2, r3) := by rw [if_pos rfl] at H; exact H
        clear H
        have H := H1
        clear H1
        replace H := Option.bind_eq_some_iff.mp H
        obtain ⟨⟨t129, t130⟩, A110, H⟩ := H
        replace H : ((pack_Reader_works.f t129 t130).bind fun bt131 => (if bt131.1 = true then (if 0 ≤ t123 then (if t123 ≤ (bt131.2.1.size : Int) then (some (bt131.2.1.extract 0 (t123 : Int).toNat, bt131.2.1.extract (t123 : Int).toNat bt131.2.1.size, bt131.2.2)) else (none)) else (none)) else (some ((⟨#[]⟩ : ByteArray), bt131.2.1, bt131.2.2)))) = some (r1, r2, r3) := H
        have A11 := Aside0.mk A110
        clear A110
        replace H := Option.bind_eq_some_iff.mp H
        obtain ⟨⟨t131, t132, t133⟩, A120, H⟩ := H
        replace H : (if t131 = true then (if 0 ≤ t123 then (if t123 ≤ (t132.size : Int) then (some (t132.extract 0 (t123 : Int).toNat, t132.extract (t123 : Int).toNat t132.size, t133)) else (none)) else (none)) else (some ((⟨#[]⟩ : ByteArray), t132, t133))) = some (r1, r2, r3) := H
        have A12 := Aside0.mk A120
        clear A120
        by_cases c13 : t131 = true
        · subst c13
          have H1 : (if 0 ≤ t123 then (if t123 ≤ (t132.size : Int) then (some (t132.extract 0 (t123 : Int).toNat, t132.extract (t123 : Int).toNat t132.size, t133)) else (none)) else (none)) = some (r1, r2, r3) := by rw [if_pos rfl] at H; exact H
          clear H
          have H := H1
          clear H1
          by_cases c14 : 0 ≤ t123
          · rw [if_pos c14] at H
            have c14b0 := eq_true c14
            have c14b1 : decide (0 ≤ t123) = true := decide_eq_true c14
            clear c14
            by_cases c15 : t123 ≤ (t132.size : Int)
            · rw [if_pos c15] at H
              have c15b0 := eq_true c15
              have c15b1 : decide (t123 ≤ (t132.size : Int)) = true := decide_eq_true c15
              clear c15
              have c16b0 := eq_true (of_decide_eq_true (by first | (with_reducible assumption) | assumption) : 0 ≤ t123)
              have c17b0 := eq_true (of_decide_eq_true (by first | (with_reducible assumption) | assumption) : t123 ≤ (t132.size : Int))
              simp only [Option.some.injEq, Prod.mk.injEq] at H
              obtain ⟨rfl, rfl, rfl⟩ := H
              go_wp2_with (first | ((with_reducible refine gate_callee (f := 55) rfl ?_); refine goesL_ (some 19) rfl rfl Tryd.func55 (by kernel_rfl) rfl #[.pointer (some ⟨g, 0, none⟩), .int .i64 3] rfl (by (try simp only [List.map_toArray, List.map_cons, List.map_nil]); first | done | rfl | (simp only [List.length_drop, List.length_take]; rfl)) ?_; (with_reducible refine (pack_Reader_wrong.calls g x1000_2 x1001_2 3 t129 t130 w0 _ ?side1 ?side2 A11.out).mono ?_); (case side1 => repeat (first | (with_reducible first | exact HI0.out | apply IsS88.alloc | apply IsS88.drewN | apply IsS88.drew | apply IsS88.set_0 | apply IsS88.set_1) | exact HI0.out)); (case side2 => repeat (first | (with_reducible first | exact HB.out | apply below_alloc | apply pw_below_drewN | apply below_drew1 | refine below_set ?_ (IsS88.ge HI0.out)) | exact HB.out)); rintro e w18 ⟨rfl, hi, hb, hk⟩; refine ⟨_, rfl, ?_⟩; have n0_ := Aside0.mk (KeepBut.trans (by repeat (first | (with_reducible first | exact HK.out | apply KeepBut.set_ | apply keep_drewN | apply keep_drew | apply keep_alloc) | exact HK.out)) hk (.inl rfl)); have n1_ := Aside0.mk (hb); have n2_ := Aside0.mk (hi); clear HK; clear HB; clear HI0; have HK := n0_; have HB := n1_; have HI0 := n2_; clear n0_ n1_ n2_; (try clear hb); (try clear hb2); (try clear hk); (try clear hi)) | ((with_reducible refine gate_callee (f := 54) rfl ?_); refine goesL_ (some 21) rfl rfl Tryd.func54 (by kernel_rfl) rfl #[.pointer (some ⟨g, 0, none⟩)] rfl (by (try simp only [List.map_toArray, List.map_cons, List.map_nil]); first | done | rfl | (simp only [List.length_drop, List.length_take]; rfl)) ?_; (with_reducible refine (pack_Reader_works.calls g t129 t130 true t132 t133 w0 _ ?side1 ?side2 A12.out).mono ?_); (case side1 => repeat (first | (with_reducible first | exact HI0.out | apply IsS88.alloc | apply IsS88.drewN | apply IsS88.drew | apply IsS88.set_0 | apply IsS88.set_1) | exact HI0.out)); (case side2 => repeat (first | (with_reducible first | exact HB.out | apply below_alloc | apply pw_below_drewN | apply below_drew1 | refine below_set ?_ (IsS88.ge HI0.out)) | exact HB.out)); rintro e w19 ⟨rfl, hi, hb, hk⟩; refine ⟨_, rfl, ?_⟩; have n0_ := Aside0.mk (KeepBut.trans (by repeat (first | (with_reducible first | exact HK.out | apply KeepBut.set_ | apply keep_drewN | apply keep_drew | apply keep_alloc) | exact HK.out)) hk (.inl rfl)); have n1_ := Aside0.mk (hb); have n2_ := Aside0.mk (hi); clear HK; clear HB; clear HI0; have HK := n0_; have HB := n1_; have HI0 := n2_; clear n0_ n1_ n2_; (try clear hb); (try clear hb2); (try clear hk); (try clear hi); obtain ⟨HGz20, hgz20⟩ := HI0.out; have hcz20_0 := cellS88_0 HGz20; have hcz20_1 := cellS88_1 HGz20; have hfz20_0 := blk_frozen HGz20 0; have hfz20_1 := blk_frozen HGz20 1; clear HGz20 hgz20))
              go_ret
              exact ⟨by first | rfl | (simp [errW_none, errW_some] <;> rfl) | (simp [*, errW_none, errW_some] <;> rfl), by repeat (first | (with_reducible first | exact HI0.out | apply IsS88.alloc | apply IsS88.drewN | apply IsS88.drew | apply IsS88.set_0 | apply IsS88.set_1) | exact HI0.out), by repeat (first | (with_reducible first | exact HB.out | apply below_alloc | apply pw_below_drewN | apply below_drew1 | refine below_set ?_ (IsS88.ge HI0.out)) | exact HB.out), by repeat (first | (with_reducible first | exact HK.out | apply KeepBut.set_ | apply keep_drewN | apply keep_drew | apply keep_alloc) | exact HK.out)⟩
            · rw [if_neg c15] at H
              exact absurd H (by simp)
          · rw [if_neg c14] at H
            exact absurd H (by simp)
        · replace c13 := Bool.eq_false_iff.mpr c13
          subst c13
          have H1 : (some ((⟨#[]⟩ : ByteArray), t132, t133)) = some (r1, r2, r3) := by rw [if_neg (show ¬ (false = true) by decide)] at H; exact H
          clear H
          have H := H1
          clear H1
          simp only [Option.some.injEq, Prod.mk.injEq] at H
          obtain ⟨rfl, rfl, rfl⟩ := H
          go_wp2_with (first | ((with_reducible refine gate_callee (f := 55) rfl ?_); refine goesL_ (some 19) rfl rfl Tryd.func55 (by kernel_rfl) rfl #[.pointer (some ⟨g, 0, none⟩), .int .i64 3] rfl (by (try simp only [List.map_toArray, List.map_cons, List.map_nil]); first | done | rfl | (simp only [List.length_drop, List.length_take]; rfl)) ?_; (with_reducible refine (pack_Reader_wrong.calls g x1000_2 x1001_2 3 t129 t130 w0 _ ?side1 ?side2 A11.out).mono ?_); (case side1 => repeat (first | (with_reducible first | exact HI0.out | apply IsS88.alloc | apply IsS88.drewN | apply IsS88.drew | apply IsS88.set_0 | apply IsS88.set_1) | exact HI0.out)); (case side2 => repeat (first | (with_reducible first | exact HB.out | apply below_alloc | apply pw_below_drewN | apply below_drew1 | refine below_set ?_ (IsS88.ge HI0.out)) | exact HB.out)); rintro e w21 ⟨rfl, hi, hb, hk⟩; refine ⟨_, rfl, ?_⟩; have n0_ := Aside0.mk (KeepBut.trans (by repeat (first | (with_reducible first | exact HK.out | apply KeepBut.set_ | apply keep_drewN | apply keep_drew | apply keep_alloc) | exact HK.out)) hk (.inl rfl)); have n1_ := Aside0.mk (hb); have n2_ := Aside0.mk (hi); clear HK; clear HB; clear HI0; have HK := n0_; have HB := n1_; have HI0 := n2_; clear n0_ n1_ n2_; (try clear hb); (try clear hb2); (try clear hk); (try clear hi)) | ((with_reducible refine gate_callee (f := 54) rfl ?_); refine goesL_ (some 21) rfl rfl Tryd.func54 (by kernel_rfl) rfl #[.pointer (some ⟨g, 0, none⟩)] rfl (by (try simp only [List.map_toArray, List.map_cons, List.map_nil]); first | done | rfl | (simp only [List.length_drop, List.length_take]; rfl)) ?_; (with_reducible refine (pack_Reader_works.calls g t129 t130 false t132 t133 w0 _ ?side1 ?side2 A12.out).mono ?_); (case side1 => repeat (first | (with_reducible first | exact HI0.out | apply IsS88.alloc | apply IsS88.drewN | apply IsS88.drew | apply IsS88.set_0 | apply IsS88.set_1) | exact HI0.out)); (case side2 => repeat (first | (with_reducible first | exact HB.out | apply below_alloc | apply pw_below_drewN | apply below_drew1 | refine below_set ?_ (IsS88.ge HI0.out)) | exact HB.out)); rintro e w22 ⟨rfl, hi, hb, hk⟩; refine ⟨_, rfl, ?_⟩; have n0_ := Aside0.mk (KeepBut.trans (by repeat (first | (with_reducible first | exact HK.out | apply KeepBut.set_ | apply keep_drewN | apply keep_drew | apply keep_alloc) | exact HK.out)) hk (.inl rfl)); have n1_ := Aside0.mk (hb); have n2_ := Aside0.mk (hi); clear HK; clear HB; clear HI0; have HK := n0_; have HB := n1_; have HI0 := n2_; clear n0_ n1_ n2_; (try clear hb); (try clear hb2); (try clear hk); (try clear hi)))
          go_ret
          exact ⟨by first | rfl | (simp [errW_none, errW_some] <;> rfl) | (simp [*, errW_none, errW_some] <;> rfl), by repeat (first | (with_reducible first | exact HI0.out | apply IsS88.alloc | apply IsS88.drewN | apply IsS88.drew | apply IsS88.set_0 | apply IsS88.set_1) | exact HI0.out), by repeat (first | (with_reducible first | exact HB.out | apply below_alloc | apply pw_below_drewN | apply below_drew1 | refine below_set ?_ (IsS88.ge HI0.out)) | exact HB.out), by repeat (first | (with_reducible first | exact HK.out | apply KeepBut.set_ | apply keep_drewN | apply keep_drew | apply keep_alloc) | exact HK.out)⟩
      · replace c10 := Bool.eq_false_iff.mpr c10
        subst c10
        have H1 : ((pack_Reader_works.f x1000_2 x1001_2).bind fun bt134 => (if bt134.1 = true then (if 0 ≤ t123 then (if t123 ≤ (bt134.2.1.size : Int) then (some (bt134.2.1.extract 0 (t123 : Int).toNat, bt134.2.1.extract (t123 : Int).toNat bt134.2.1.size, bt134.2.2)) else (none)) else (none)) else (some ((⟨#[]⟩ : ByteArray), bt134.2.1, bt134.2.2)))) = some (r1, r2, r3) := by rw [if_neg (show ¬ (false = true) by decide)] at H; exact H
        clear H
        have H := H1
        clear H1
        replace H := Option.bind_eq_some_iff.mp H
        obtain ⟨⟨t134, t135, t136⟩, A230, H⟩ := H
        replace H : (if t134 = true then (if 0 ≤ t123 then (if t123 ≤ (t135.size : Int) then (some (t135.extract 0 (t123 : Int).toNat, t135.extract (t123 : Int).toNat t135.size, t136)) else (none)) else (none)) else (some ((⟨#[]⟩ : ByteArray), t135, t136))) = some (r1, r2, r3) := H
        have A23 := Aside0.mk A230
        clear A230
        by_cases c24 : t134 = true
        · subst c24
          have H1 : (if 0 ≤ t123 then (if t123 ≤ (t135.size : Int) then (some (t135.extract 0 (t123 : Int).toNat, t135.extract (t123 : Int).toNat t135.size, t136)) else (none)) else (none)) = some (r1, r2, r3) := by rw [if_pos rfl] at H; exact H
          clear H
          have H := H1
          clear H1
          by_cases c25 : 0 ≤ t123
          · rw [if_pos c25] at H
            have c25b0 := eq_true c25
            have c25b1 : decide (0 ≤ t123) = true := decide_eq_true c25
            clear c25
            by_cases c26 : t123 ≤ (t135.size : Int)
            · rw [if_pos c26] at H
              have c26b0 := eq_true c26
              have c26b1 : decide (t123 ≤ (t135.size : Int)) = true := decide_eq_true c26
              clear c26
              have c27b0 := eq_true (of_decide_eq_true (by first | (with_reducible assumption) | assumption) : 0 ≤ t123)
              have c28b0 := eq_true (of_decide_eq_true (by first | (with_reducible assumption) | assumption) : t123 ≤ (t135.size : Int))
              simp only [Option.some.injEq, Prod.mk.injEq] at H
              obtain ⟨rfl, rfl, rfl⟩ := H
              go_wp2_with (first | ((with_reducible refine gate_callee (f := 54) rfl ?_); refine goesL_ (some 21) rfl rfl Tryd.func54 (by kernel_rfl) rfl #[.pointer (some ⟨g, 0, none⟩)] rfl (by (try simp only [List.map_toArray, List.map_cons, List.map_nil]); first | done | rfl | (simp only [List.length_drop, List.length_take]; rfl)) ?_; (with_reducible refine (pack_Reader_works.calls g x1000_2 x1001_2 true t135 t136 w0 _ ?side1 ?side2 A23.out).mono ?_); (case side1 => repeat (first | (with_reducible first | exact HI0.out | apply IsS88.alloc | apply IsS88.drewN | apply IsS88.drew | apply IsS88.set_0 | apply IsS88.set_1) | exact HI0.out)); (case side2 => repeat (first | (with_reducible first | exact HB.out | apply below_alloc | apply pw_below_drewN | apply below_drew1 | refine below_set ?_ (IsS88.ge HI0.out)) | exact HB.out)); rintro e w29 ⟨rfl, hi, hb, hk⟩; refine ⟨_, rfl, ?_⟩; have n0_ := Aside0.mk (KeepBut.trans (by repeat (first | (with_reducible first | exact HK.out | apply KeepBut.set_ | apply keep_drewN | apply keep_drew | apply keep_alloc) | exact HK.out)) hk (.inl rfl)); have n1_ := Aside0.mk (hb); have n2_ := Aside0.mk (hi); clear HK; clear HB; clear HI0; have HK := n0_; have HB := n1_; have HI0 := n2_; clear n0_ n1_ n2_; (try clear hb); (try clear hb2); (try clear hk); (try clear hi); obtain ⟨HGz30, hgz30⟩ := HI0.out; have hcz30_0 := cellS88_0 HGz30; have hcz30_1 := cellS88_1 HGz30; have hfz30_0 := blk_frozen HGz30 0; have hfz30_1 := blk_frozen HGz30 1; clear HGz30 hgz30))
              go_ret
              exact ⟨by first | rfl | (simp [errW_none, errW_some] <;> rfl) | (simp [*, errW_none, errW_some] <;> rfl), by repeat (first | (with_reducible first | exact HI0.out | apply IsS88.alloc | apply IsS88.drewN | apply IsS88.drew | apply IsS88.set_0 | apply IsS88.set_1) | exact HI0.out), by repeat (first | (with_reducible first | exact HB.out | apply below_alloc | apply pw_below_drewN | apply below_drew1 | refine below_set ?_ (IsS88.ge HI0.out)) | exact HB.out), by repeat (first | (with_reducible first | exact HK.out | apply KeepBut.set_ | apply keep_drewN | apply keep_drew | apply keep_alloc) | exact HK.out)⟩
            · rw [if_neg c26] at H
              exact absurd H (by simp)
          · rw [if_neg c25] at H
            exact absurd H (by simp)
        · replace c24 := Bool.eq_false_iff.mpr c24
          subst c24
          have H1 : (some ((⟨#[]⟩ : ByteArray), t135, t136)) = some (r1, r2, r3) := by rw [if_neg (show ¬ (false = true) by decide)] at H; exact H
          clear H
          have H := H1
          clear H1
          simp only [Option.some.injEq, Prod.mk.injEq] at H
          obtain ⟨rfl, rfl, rfl⟩ := H
          go_wp2_with (first | ((with_reducible refine gate_callee (f := 54) rfl ?_); refine goesL_ (some 21) rfl rfl Tryd.func54 (by kernel_rfl) rfl #[.pointer (some ⟨g, 0, none⟩)] rfl (by (try simp only [List.map_toArray, List.map_cons, List.map_nil]); first | done | rfl | (simp only [List.length_drop, List.length_take]; rfl)) ?_; (with_reducible refine (pack_Reader_works.calls g x1000_2 x1001_2 false t135 t136 w0 _ ?side1 ?side2 A23.out).mono ?_); (case side1 => repeat (first | (with_reducible first | exact HI0.out | apply IsS88.alloc | apply IsS88.drewN | apply IsS88.drew | apply IsS88.set_0 | apply IsS88.set_1) | exact HI0.out)); (case side2 => repeat (first | (with_reducible first | exact HB.out | apply below_alloc | apply pw_below_drewN | apply below_drew1 | refine below_set ?_ (IsS88.ge HI0.out)) | exact HB.out)); rintro e w31 ⟨rfl, hi, hb, hk⟩; refine ⟨_, rfl, ?_⟩; have n0_ := Aside0.mk (KeepBut.trans (by repeat (first | (with_reducible first | exact HK.out | apply KeepBut.set_ | apply keep_drewN | apply keep_drew | apply keep_alloc) | exact HK.out)) hk (.inl rfl)); have n1_ := Aside0.mk (hb); have n2_ := Aside0.mk (hi); clear HK; clear HB; clear HI0; have HK := n0_; have HB := n1_; have HI0 := n2_; clear n0_ n1_ n2_; (try clear hb); (try clear hb2); (try clear hk); (try clear hi)))
          go_ret
          exact ⟨by first | rfl | (simp [errW_none, errW_some] <;> rfl) | (simp [*, errW_none, errW_some] <;> rfl), by repeat (first | (with_reducible first | exact HI0.out | apply IsS88.alloc | apply IsS88.drewN | apply IsS88.drew | apply IsS88.set_0 | apply IsS88.set_1) | exact HI0.out), by repeat (first | (with_reducible first | exact HB.out | apply below_alloc | apply pw_below_drewN | apply below_drew1 | refine below_set ?_ (IsS88.ge HI0.out)) | exact HB.out), by repeat (first | (with_reducible first | exact HK.out | apply KeepBut.set_ | apply keep_drewN | apply keep_drew | apply keep_alloc) | exact HK.out)⟩
def pack_Reader_Rest.f (s0_0 : ByteArray) (s0_1 : Int) : Option (ByteArray × ByteArray × Int) := (pack_Reader_works.f s0_0 s0_1).bind fun bt137 => (if bt137.1 = true then (some (bt137.2.1, (⟨#[]⟩ : ByteArray), bt137.2.2)) else (some ((⟨#[]⟩ : ByteArray), bt137.2.1, bt137.2.2)))
set_option maxHeartbeats 8000000 in
set_option maxRecDepth 100000 in
theorem pack_Reader_Rest.calls (g : Nat) (s0_0 : ByteArray) (s0_1 : Int) (r1 : ByteArray) (r2 : ByteArray) (r3 : Int) (w0 w : World) (hI : IsS88 w0 w g s0_0 s0_1) (hB : Below w0.heap.size w0 w) (h : pack_Reader_Rest.f s0_0 s0_1 = some (r1, r2, r3)) :
    Calls Tryd.prog 37 #[.pointer (some ⟨g, 0, none⟩)] w fun e w' => e = .returned (.string r1) ∧ IsS88 w0 w' g r2 r3 ∧ Below w0.heap.size w0 w' ∧ KeepBut w w' g none := by
  have HI0 := Aside0.mk hI
  have HK := Aside0.mk (KeepBut.refl w g none)
  have HL := Aside0.mk hB.size
  clear hI
  have HW0 := Aside0.mk hB.size
  have HB := Aside0.mk hB
  clear hB
  have H : ((pack_Reader_works.f s0_0 s0_1).bind fun bt137 => (if bt137.1 = true then (some (bt137.2.1, (⟨#[]⟩ : ByteArray), bt137.2.2)) else (some ((⟨#[]⟩ : ByteArray), bt137.2.1, bt137.2.2)))) = some (r1, r2, r3) := h
  clear h
  replace H := Option.bind_eq_some_iff.mp H
  obtain ⟨⟨t137, t138, t139⟩, A20, H⟩ := H
  replace H : (if t137 = true then (some (t138, (⟨#[]⟩ : ByteArray), t139)) else (some ((⟨#[]⟩ : ByteArray), t138, t139))) = some (r1, r2, r3) := H
  have A2 := Aside0.mk A20
  clear A20
  by_cases c3 : t137 = true
  · subst c3
    have H1 : (some (t138, (⟨#[]⟩ : ByteArray), t139)) = some (r1, r2, r3) := by rw [if_pos rfl] at H; exact H
    clear H
    have H := H1
    clear H1
    simp only [Option.some.injEq, Prod.mk.injEq] at H
    obtain ⟨rfl, rfl, rfl⟩ := H
    go_enter Tryd.func37, Tryd.ntmps37
    go_wp2_with (first | ((with_reducible refine gate_callee (f := 54) rfl ?_); refine goesL_ (some 5) rfl rfl Tryd.func54 (by kernel_rfl) rfl #[.pointer (some ⟨g, 0, none⟩)] rfl (by (try simp only [List.map_toArray, List.map_cons, List.map_nil]); first | done | rfl | (simp only [List.length_drop, List.length_take]; rfl)) ?_; (with_reducible refine (pack_Reader_works.calls g s0_0 s0_1 true t138 t139 w0 _ ?side1 ?side2 A2.out).mono ?_); (case side1 => repeat (first | (with_reducible first | exact HI0.out | apply IsS88.alloc | apply IsS88.drewN | apply IsS88.drew | apply IsS88.set_0 | apply IsS88.set_1) | exact HI0.out)); (case side2 => repeat (first | (with_reducible first | exact HB.out | apply below_alloc | apply pw_below_drewN | apply below_drew1 | refine below_set ?_ (IsS88.ge HI0.out)) | exact HB.out)); rintro e w4 ⟨rfl, hi, hb, hk⟩; refine ⟨_, rfl, ?_⟩; have n0_ := Aside0.mk (KeepBut.trans (by repeat (first | (with_reducible first | exact HK.out | apply KeepBut.set_ | apply keep_drewN | apply keep_drew | apply keep_alloc) | exact HK.out)) hk (.inl rfl)); have n1_ := Aside0.mk (hb); have n2_ := Aside0.mk (hi); clear HK; clear HB; clear HI0; have HK := n0_; have HB := n1_; have HI0 := n2_; clear n0_ n1_ n2_; (try clear hb); (try clear hb2); (try clear hk); (try clear hi); obtain ⟨HGz5, hgz5⟩ := HI0.out; have hcz5_0 := cellS88_0 HGz5; have hcz5_1 := cellS88_1 HGz5; have hfz5_0 := blk_frozen HGz5 0; have hfz5_1 := blk_frozen HGz5 1; clear HGz5 hgz5))
    go_ret
    exact ⟨by first | rfl | (simp [errW_none, errW_some] <;> rfl) | (simp [*, errW_none, errW_some] <;> rfl), by repeat (first | (with_reducible first | exact HI0.out | apply IsS88.alloc | apply IsS88.drewN | apply IsS88.drew | apply IsS88.set_0 | apply IsS88.set_1) | exact HI0.out), by repeat (first | (with_reducible first | exact HB.out | apply below_alloc | apply pw_below_drewN | apply below_drew1 | refine below_set ?_ (IsS88.ge HI0.out)) | exact HB.out), by repeat (first | (with_reducible first | exact HK.out | apply KeepBut.set_ | apply keep_drewN | apply keep_drew | apply keep_alloc) | exact HK.out)⟩
  · replace c3 := Bool.eq_false_iff.mpr c3
    subst c3
    have H1 : (some ((⟨#[]⟩ : ByteArray), t138, t139)) = some (r1, r2, r3) := by rw [if_neg (show ¬ (false = true) by decide)] at H; exact H
    clear H
    have H := H1
    clear H1
    simp only [Option.some.injEq, Prod.mk.injEq] at H
    obtain ⟨rfl, rfl, rfl⟩ := H
    go_enter Tryd.func37, Tryd.ntmps37
    go_wp2_with (first | ((with_reducible refine gate_callee (f := 54) rfl ?_); refine goesL_ (some 5) rfl rfl Tryd.func54 (by kernel_rfl) rfl #[.pointer (some ⟨g, 0, none⟩)] rfl (by (try simp only [List.map_toArray, List.map_cons, List.map_nil]); first | done | rfl | (simp only [List.length_drop, List.length_take]; rfl)) ?_; (with_reducible refine (pack_Reader_works.calls g s0_0 s0_1 false t138 t139 w0 _ ?side1 ?side2 A2.out).mono ?_); (case side1 => repeat (first | (with_reducible first | exact HI0.out | apply IsS88.alloc | apply IsS88.drewN | apply IsS88.drew | apply IsS88.set_0 | apply IsS88.set_1) | exact HI0.out)); (case side2 => repeat (first | (with_reducible first | exact HB.out | apply below_alloc | apply pw_below_drewN | apply below_drew1 | refine below_set ?_ (IsS88.ge HI0.out)) | exact HB.out)); rintro e w6 ⟨rfl, hi, hb, hk⟩; refine ⟨_, rfl, ?_⟩; have n0_ := Aside0.mk (KeepBut.trans (by repeat (first | (with_reducible first | exact HK.out | apply KeepBut.set_ | apply keep_drewN | apply keep_drew | apply keep_alloc) | exact HK.out)) hk (.inl rfl)); have n1_ := Aside0.mk (hb); have n2_ := Aside0.mk (hi); clear HK; clear HB; clear HI0; have HK := n0_; have HB := n1_; have HI0 := n2_; clear n0_ n1_ n2_; (try clear hb); (try clear hb2); (try clear hk); (try clear hi)))
    go_ret
    exact ⟨by first | rfl | (simp [errW_none, errW_some] <;> rfl) | (simp [*, errW_none, errW_some] <;> rfl), by repeat (first | (with_reducible first | exact HI0.out | apply IsS88.alloc | apply IsS88.drewN | apply IsS88.drew | apply IsS88.set_0 | apply IsS88.set_1) | exact HI0.out), by repeat (first | (with_reducible first | exact HB.out | apply below_alloc | apply pw_below_drewN | apply below_drew1 | refine below_set ?_ (IsS88.ge HI0.out)) | exact HB.out), by repeat (first | (with_reducible first | exact HK.out | apply KeepBut.set_ | apply keep_drewN | apply keep_drew | apply keep_alloc) | exact HK.out)⟩
def pack_Reader_End.f (s0_0 : ByteArray) (s0_1 : Int) : Option (Int × ByteArray × Int) := if s0_0.toList = ([] : List UInt8) then (some (s0_1, s0_0, s0_1)) else ((pack_Reader_wrong.f s0_0 s0_1 4).bind fun bt140 => (some (bt140.2, bt140.1, bt140.2)))
set_option maxHeartbeats 8000000 in
set_option maxRecDepth 100000 in
theorem pack_Reader_End.calls (g : Nat) (s0_0 : ByteArray) (s0_1 : Int) (r1 : Int) (r2 : ByteArray) (r3 : Int) (w0 w : World) (hI : IsS88 w0 w g s0_0 s0_1) (hB : Below w0.heap.size w0 w) (h : pack_Reader_End.f s0_0 s0_1 = some (r1, r2, r3)) :
    Calls Tryd.prog 38 #[.pointer (some ⟨g, 0, none⟩)] w fun e w' => e = .returned (.int .i64 r1) ∧ IsS88 w0 w' g r2 r3 ∧ Below w0.heap.size w0 w' ∧ KeepBut w w' g none := by
  have HI0 := Aside0.mk hI
  have HK := Aside0.mk (KeepBut.refl w g none)
  have HL := Aside0.mk hB.size
  clear hI
  have HW0 := Aside0.mk hB.size
  have HB := Aside0.mk hB
  clear hB
  have H : (if s0_0.toList = ([] : List UInt8) then (some (s0_1, s0_0, s0_1)) else ((pack_Reader_wrong.f s0_0 s0_1 4).bind fun bt140 => (some (bt140.2, bt140.1, bt140.2)))) = some (r1, r2, r3) := h
  clear h
  by_cases c2 : s0_0.toList = ([] : List UInt8)
  · rw [if_pos c2] at H
    have c2b0 : (s0_0.toList == ([] : List UInt8)) = true := beq_iff_eq.mpr c2
    have c2b1 : (s0_0.toList != ([] : List UInt8)) = false := bne_eq_false_iff_eq.mpr c2
    clear c2
    simp only [Option.some.injEq, Prod.mk.injEq] at H
    obtain ⟨rfl, rfl, rfl⟩ := H
    obtain ⟨HGz3, hgz3⟩ := HI0.out
    have hcz3_0 := cellS88_0 HGz3
    have hcz3_1 := cellS88_1 HGz3
    have hfz3_0 := blk_frozen HGz3 0
    have hfz3_1 := blk_frozen HGz3 1
    clear HGz3 hgz3
    go_enter Tryd.func38, Tryd.ntmps38
    go_wp2
    go_ret
    exact ⟨by first | rfl | (simp [errW_none, errW_some] <;> rfl) | (simp [*, errW_none, errW_some] <;> rfl), by repeat (first | (with_reducible first | exact HI0.out | apply IsS88.alloc | apply IsS88.drewN | apply IsS88.drew | apply IsS88.set_0 | apply IsS88.set_1) | exact HI0.out), by repeat (first | (with_reducible first | exact HB.out | apply below_alloc | apply pw_below_drewN | apply below_drew1 | refine below_set ?_ (IsS88.ge HI0.out)) | exact HB.out), by repeat (first | (with_reducible first | exact HK.out | apply KeepBut.set_ | apply keep_drewN | apply keep_drew | apply keep_alloc) | exact HK.out)⟩
  · rw [if_neg c2] at H
    have c2b0 : (s0_0.toList == ([] : List UInt8)) = false := beq_eq_false_iff_ne.mpr c2
    have c2b1 : (s0_0.toList != ([] : List UInt8)) = true := bne_iff_ne.mpr c2
    replace H := Option.bind_eq_some_iff.mp H
    obtain ⟨⟨t140, t141⟩, A40, H⟩ := H
    replace H : (some (t141, t140, t141)) = some (r1, r2, r3) := H
    have A4 := Aside0.mk A40
    clear A40
    simp only [Option.some.injEq, Prod.mk.injEq] at H
    obtain ⟨rfl, rfl, rfl⟩ := H
    obtain ⟨HGz5, hgz5⟩ := HI0.out
    have hcz5_0 := cellS88_0 HGz5
    have hcz5_1 := cellS88_1 HGz5
    have hfz5_0 := blk_frozen HGz5 0
    have hfz5_1 := blk_frozen HGz5 1
    clear HGz5 hgz5
    go_enter Tryd.func38, Tryd.ntmps38
    go_wp2_with (first | ((with_reducible refine gate_callee (f := 55) rfl ?_); refine goesL_ (some 11) rfl rfl Tryd.func55 (by kernel_rfl) rfl #[.pointer (some ⟨g, 0, none⟩), .int .i64 4] rfl (by (try simp only [List.map_toArray, List.map_cons, List.map_nil]); first | done | rfl | (simp only [List.length_drop, List.length_take]; rfl)) ?_; (with_reducible refine (pack_Reader_wrong.calls g s0_0 s0_1 4 t140 t141 w0 _ ?side1 ?side2 A4.out).mono ?_); (case side1 => repeat (first | (with_reducible first | exact HI0.out | apply IsS88.alloc | apply IsS88.drewN | apply IsS88.drew | apply IsS88.set_0 | apply IsS88.set_1) | exact HI0.out)); (case side2 => repeat (first | (with_reducible first | exact HB.out | apply below_alloc | apply pw_below_drewN | apply below_drew1 | refine below_set ?_ (IsS88.ge HI0.out)) | exact HB.out)); rintro e w6 ⟨rfl, hi, hb, hk⟩; refine ⟨_, rfl, ?_⟩; have n0_ := Aside0.mk (KeepBut.trans (by repeat (first | (with_reducible first | exact HK.out | apply KeepBut.set_ | apply keep_drewN | apply keep_drew | apply keep_alloc) | exact HK.out)) hk (.inl rfl)); have n1_ := Aside0.mk (hb); have n2_ := Aside0.mk (hi); clear HK; clear HB; clear HI0; have HK := n0_; have HB := n1_; have HI0 := n2_; clear n0_ n1_ n2_; (try clear hb); (try clear hb2); (try clear hk); (try clear hi); obtain ⟨HGz7, hgz7⟩ := HI0.out; have hcz7_0 := cellS88_0 HGz7; have hcz7_1 := cellS88_1 HGz7; have hfz7_0 := blk_frozen HGz7 0; have hfz7_1 := blk_frozen HGz7 1; clear HGz7 hgz7))
    go_ret
    exact ⟨by first | rfl | (simp [errW_none, errW_some] <;> rfl) | (simp [*, errW_none, errW_some] <;> rfl), by repeat (first | (with_reducible first | exact HI0.out | apply IsS88.alloc | apply IsS88.drewN | apply IsS88.drew | apply IsS88.set_0 | apply IsS88.set_1) | exact HI0.out), by repeat (first | (with_reducible first | exact HB.out | apply below_alloc | apply pw_below_drewN | apply below_drew1 | refine below_set ?_ (IsS88.ge HI0.out)) | exact HB.out), by repeat (first | (with_reducible first | exact HK.out | apply KeepBut.set_ | apply keep_drewN | apply keep_drew | apply keep_alloc) | exact HK.out)⟩
def sluicegateref06_Ints.l0 : Nat → List Int → List Int → Int → Option (Bool)
  | 0, _, _, _ => none
  | k + 1, x0, x1, x5 => if x5 < (x0.length : Int) then (if 0 ≤ x5 then (if x5 < (x1.length : Int) then (if (rd x0 x5) = (rd x1 x5) then (sluicegateref06_Ints.l0 k x0 x1 (wrap64 (x5 + 1))) else (some false)) else (none)) else (none)) else (some true)
def sluicegateref06_Ints.f (k : Nat) (l0 : List Int) (l1 : List Int) : Option (Bool) := if (l0.length : Int) = (l1.length : Int) then (sluicegateref06_Ints.l0 k l0 l1 0) else (some false)
set_option maxHeartbeats 8000000 in
set_option maxRecDepth 100000 in
theorem sluicegateref06_Ints.calls (k : Nat) (A0 : Option Addr) (c0 : Nat) (l0 : List Int) (A1 : Option Addr) (c1 : Nat) (l1 : List Int) (r : Bool) (w : World) (hr0 : Kd.C (Kd.int .i64) w A0 l0.length l0) (hc0 : l0.length ≤ c0) (hr1 : Kd.C (Kd.int .i64) w A1 l1.length l1) (hc1 : l1.length ≤ c1) (h : sluicegateref06_Ints.f k l0 l1 = some r) :
    Calls Tryd.prog 21 #[.slice A0 l0.length c0, .slice A1 l1.length c1] w fun e w' => e = .returned (.bool r) ∧ Drawn0 w w' := by
  have HR0 := Aside0.mk hr0
  have HC0 := Aside0.mk hc0
  clear hr0 hc0
  have HR1 := Aside0.mk hr1
  have HC1 := Aside0.mk hc1
  clear hr1 hc1
  have H : (if (l0.length : Int) = (l1.length : Int) then (sluicegateref06_Ints.l0 k l0 l1 0) else (some false)) = some r := h
  clear h
  by_cases c3 : (l0.length : Int) = (l1.length : Int)
  · rw [if_pos c3] at H
    have c3b0 : ((l0.length : Int) == (l1.length : Int)) = true := beq_iff_eq.mpr c3
    have c3b1 : ((l0.length : Int) != (l1.length : Int)) = false := bne_eq_false_iff_eq.mpr c3
    have c3b2 : (l0.length == l1.length) = true := by first | simpa using c3 | (simp at c3 ⊢; omega)
    clear c3
    have H' := Aside0.mk H
    clear H
    go_enter Tryd.func21, Tryd.ntmps21
    go_wp2
    repeat (go_quiet (fail); try go_wp2)
    go_loopg [5] k (fun kq v5 w' => ∃ (x5_1 : Int), v5 = .int .i64 x5_1 ∧ Aside0 (sluicegateref06_Ints.l0 kq l0 l1 x5_1 = some r) ∧ Aside0 (kq ≤ k) ∧ Drawn0 w w')
    case atStart => exact ⟨(0), (by first | rfl | (simp; done) | (simp [*]; done)), H', ⟨Nat.le_refl _⟩, by repeat (first | exact Drawn0.refl _ | apply Drawn0.step)⟩
    case round =>
      clear H'
      try clear c1
      try clear c2
      try clear p2
      try clear c3
      try clear c3b0
      try clear c3b1
      try clear c3b2
      obtain ⟨x5_1, rfl, HA, HK1, ⟨m1, rfl⟩⟩ := hrel
      cases gk with
      | zero => exact absurd HA.out (by simp [sluicegateref06_Ints.l0])
      | succ k1 =>
        have H := HA.out
        clear HA
        simp only [sluicegateref06_Ints.l0] at H
        by_cases c4 : x5_1 < (l0.length : Int)
        · rw [if_pos c4] at H
          have c4b0 : decide (x5_1 < (l0.length : Int)) = true := decide_eq_true c4
          clear c4
          by_cases c5 : 0 ≤ x5_1
          · rw [if_pos c5] at H
            have c5b0 : decide (0 ≤ x5_1) = true := decide_eq_true c5
            clear c5
            by_cases c6 : x5_1 < (l1.length : Int)
            · rw [if_pos c6] at H
              have c6b0 : decide (x5_1 < (l1.length : Int)) = true := decide_eq_true c6
              clear c6
              by_cases c7 : (rd l0 x5_1) = (rd l1 x5_1)
              · rw [if_pos c7] at H
                have c7b0 : ((rd l0 x5_1) == (rd l1 x5_1)) = true := beq_iff_eq.mpr c7
                have c7b1 : ((rd l0 x5_1) != (rd l1 x5_1)) = false := bne_eq_false_iff_eq.mpr c7
                clear c7
                have H' := Aside0.mk H
                clear H
                have p161 : 0 ≤ (x5_1 : Int) := of_decide_eq_true (by first | (with_reducible assumption) | assumption)
                have q161 : x5_1 < (l0.length : Int) := of_decide_eq_true (by first | (with_reducible assumption) | assumption)
                obtain ⟨ad161, e161, hx161_0⟩ := Kd.at_int HR0.out x5_1 p161 q161
                cases e161
                replace p161 := eq_true p161
                replace q161 := eq_true q161
                have p162 : 0 ≤ (x5_1 : Int) := of_decide_eq_true (by first | (with_reducible assumption) | assumption)
                have q162 : x5_1 < (l1.length : Int) := of_decide_eq_true (by first | (with_reducible assumption) | assumption)
                obtain ⟨ad162, e162, hx162_0⟩ := Kd.at_int HR1.out x5_1 p162 q162
                cases e162
                replace p162 := eq_true p162
                replace q162 := eq_true q162
                go_wp2
                repeat (go_quiet (fail); try go_wp2)
                go_roundg k1
                case measure => have := HK1.out; omega
                case rel => exact ⟨(wrap64 (x5_1 + 1)), (by first | rfl | (simp; done) | (simp [*]; done)), H', ⟨by have := HK1.out; omega⟩, by repeat (first | exact Drawn0.refl _ | apply Drawn0.step)⟩
              · rw [if_neg c7] at H
                have c7b0 : ((rd l0 x5_1) == (rd l1 x5_1)) = false := beq_eq_false_iff_ne.mpr c7
                have c7b1 : ((rd l0 x5_1) != (rd l1 x5_1)) = true := bne_iff_ne.mpr c7
                obtain rfl := Option.some.inj H
                have p161 : 0 ≤ (x5_1 : Int) := of_decide_eq_true (by first | (with_reducible assumption) | assumption)
                have q161 : x5_1 < (l0.length : Int) := of_decide_eq_true (by first | (with_reducible assumption) | assumption)
                obtain ⟨ad161, e161, hx161_0⟩ := Kd.at_int HR0.out x5_1 p161 q161
                cases e161
                replace p161 := eq_true p161
                replace q161 := eq_true q161
                have p162 : 0 ≤ (x5_1 : Int) := of_decide_eq_true (by first | (with_reducible assumption) | assumption)
                have q162 : x5_1 < (l1.length : Int) := of_decide_eq_true (by first | (with_reducible assumption) | assumption)
                obtain ⟨ad162, e162, hx162_0⟩ := Kd.at_int HR1.out x5_1 p162 q162
                cases e162
                replace p162 := eq_true p162
                replace q162 := eq_true q162
                go_wp2
                repeat (go_quiet (fail); try go_wp2)
                go_ret
                exact ⟨by first | rfl | (simp; done) | (simp [*]; done), by repeat (first | exact Drawn0.refl _ | apply Drawn0.step)⟩
            · rw [if_neg c6] at H
              exact absurd H (by simp)
          · rw [if_neg c5] at H
            exact absurd H (by simp)
        · rw [if_neg c4] at H
          have c4b0 : decide (x5_1 < (l0.length : Int)) = false := decide_eq_false c4
          clear c4
          obtain rfl := Option.some.inj H
          go_wp2
          repeat (go_quiet (fail); try go_wp2)
          go_ret
          exact ⟨by first | rfl | (simp; done) | (simp [*]; done), by repeat (first | exact Drawn0.refl _ | apply Drawn0.step)⟩
  · rw [if_neg c3] at H
    have c3b0 : ((l0.length : Int) == (l1.length : Int)) = false := beq_eq_false_iff_ne.mpr c3
    have c3b1 : ((l0.length : Int) != (l1.length : Int)) = true := bne_iff_ne.mpr c3
    have c3b2 : (l0.length == l1.length) = false := by first | simpa using c3 | (simp at c3 ⊢; omega)
    obtain rfl := Option.some.inj H
    go_enter Tryd.func21, Tryd.ntmps21
    go_wp2
    repeat (go_quiet (fail); try go_wp2)
    go_ret
    exact ⟨by first | rfl | (simp; done) | (simp [*]; done), by repeat (first | exact Drawn0.refl _ | apply Drawn0.step)⟩
def strings_trimLeftByte.l0 : Nat → ByteArray → Int → Option (ByteArray)
  | 0, _, _ => none
  | k + 1, x0, x1 => if (x0.size : Int) > 0 then (if 0 < (x0.size : Int) then (if (bt x0 0) = x1 then (if 1 ≤ (x0.size : Int) then (strings_trimLeftByte.l0 k (x0.extract 1 x0.size) x1) else (none)) else (some x0)) else (none)) else (some x0)
def strings_trimLeftByte.f (k : Nat) (a0 : ByteArray) (a1 : Int) : Option (ByteArray) := strings_trimLeftByte.l0 k a0 a1
set_option maxHeartbeats 8000000 in
set_option maxRecDepth 100000 in
theorem strings_trimLeftByte.calls (k : Nat) (a0 : ByteArray) (a1 : Int) (r : ByteArray) (w : World) (h : strings_trimLeftByte.f k a0 a1 = some r) :
    Calls Tryd.prog 65 #[.string a0, .int .u8 a1] w fun e w' => e = .returned (.string r) ∧ Drawn0 w w' := by
  have H : (strings_trimLeftByte.l0 k a0 a1) = some r := h
  clear h
  have H' := Aside0.mk H
  clear H
  go_enter Tryd.func65, Tryd.ntmps65
  go_wp2
  go_loopg [0] k (fun kq v0 w' => ∃ (x0_1 : ByteArray), v0 = .string x0_1 ∧ Aside0 (strings_trimLeftByte.l0 kq x0_1 a1 = some r) ∧ Aside0 (kq ≤ k) ∧ Drawn0 w w')
  case atStart => exact ⟨(a0), (by first | rfl | (simp; done) | (simp [*]; done)), H', ⟨Nat.le_refl _⟩, by repeat (first | exact Drawn0.refl _ | apply Drawn0.step)⟩
  case round =>
    clear H'
    try clear p2
    obtain ⟨x0_1, rfl, HA, HK1, ⟨m1, rfl⟩⟩ := hrel
    cases gk with
    | zero => exact absurd HA.out (by simp [strings_trimLeftByte.l0])
    | succ k1 =>
      have H := HA.out
      clear HA
      simp only [strings_trimLeftByte.l0] at H
      by_cases c3 : (x0_1.size : Int) > 0
      · rw [if_pos c3] at H
        have c3b0 : decide (0 < (x0_1.size : Int)) = true := decide_eq_true c3
        have c3b1 : decide (0 < x0_1.size) = true := decide_eq_true (by omega)
        clear c3
        by_cases c4 : 0 < (x0_1.size : Int)
        · rw [if_pos c4] at H
          have c4b0 : decide (0 < (x0_1.size : Int)) = true := decide_eq_true c4
          have c4b1 : decide (0 < x0_1.size) = true := decide_eq_true (by omega)
          clear c4
          by_cases c6 : (bt x0_1 0) = a1
          · rw [if_pos c6] at H
            have c6b0 : ((bt x0_1 0) == a1) = true := beq_iff_eq.mpr c6
            have c6b1 : ((bt x0_1 0) != a1) = false := bne_eq_false_iff_eq.mpr c6
            clear c6
            by_cases c7 : 1 ≤ (x0_1.size : Int)
            · rw [if_pos c7] at H
              have c7b0 := eq_true c7
              have c7b1 : decide (1 ≤ (x0_1.size : Int)) = true := decide_eq_true c7
              clear c7
              have H' := Aside0.mk H
              clear H
              have p5 : 0 ≤ (0 : Int) := (by omega)
              have q5 : 0 < x0_1.size := (by have : (0 : Int) < (x0_1.size : Int) := of_decide_eq_true (by first | (with_reducible assumption) | assumption); omega)
              have hx5 : ∀ h : 0 < x0_1.size, ((x0_1[0]'h).toNat : Int) = bt x0_1 0 := bt_at x0_1 0
              clear p5
              have qi5 : (0 < (x0_1.size : Int)) = True := eq_true (of_decide_eq_true (by first | (with_reducible assumption) | assumption))
              replace q5 := eq_true q5
              go_wp2
              go_roundg k1
              case measure => have := HK1.out; omega
              case rel => exact ⟨(x0_1.extract 1 x0_1.size), (by first | rfl | (simp; done) | (simp [*]; done)), H', ⟨by have := HK1.out; omega⟩, by repeat (first | exact Drawn0.refl _ | apply Drawn0.step)⟩
            · rw [if_neg c7] at H
              exact absurd H (by simp)
          · rw [if_neg c6] at H
            have c6b0 : ((bt x0_1 0) == a1) = false := beq_eq_false_iff_ne.mpr c6
            have c6b1 : ((bt x0_1 0) != a1) = true := bne_iff_ne.mpr c6
            obtain rfl := Option.some.inj H
            have p5 : 0 ≤ (0 : Int) := (by omega)
            have q5 : 0 < x0_1.size := (by have : (0 : Int) < (x0_1.size : Int) := of_decide_eq_true (by first | (with_reducible assumption) | assumption); omega)
            have hx5 : ∀ h : 0 < x0_1.size, ((x0_1[0]'h).toNat : Int) = bt x0_1 0 := bt_at x0_1 0
            clear p5
            have qi5 : (0 < (x0_1.size : Int)) = True := eq_true (of_decide_eq_true (by first | (with_reducible assumption) | assumption))
            replace q5 := eq_true q5
            go_wp2
            go_ret
            exact ⟨by first | rfl | (simp; done) | (simp [*]; done), by repeat (first | exact Drawn0.refl _ | apply Drawn0.step)⟩
        · rw [if_neg c4] at H
          exact absurd H (by simp)
      · rw [if_neg c3] at H
        have c3b0 : decide (0 < (x0_1.size : Int)) = false := decide_eq_false c3
        have c3b1 : decide (0 < x0_1.size) = false := decide_eq_false (by omega)
        clear c3
        obtain rfl := Option.some.inj H
        go_wp2
        go_ret
        exact ⟨by first | rfl | (simp; done) | (simp [*]; done), by repeat (first | exact Drawn0.refl _ | apply Drawn0.step)⟩
def strings_trimRightByte.l0 : Nat → ByteArray → Int → Option (ByteArray)
  | 0, _, _ => none
  | k + 1, x0, x1 => if (x0.size : Int) > 0 then (if 0 ≤ (wrap64 ((x0.size : Int) - 1)) then (if (wrap64 ((x0.size : Int) - 1)) < (x0.size : Int) then (if (bt x0 (wrap64 ((x0.size : Int) - 1))) = x1 then (if (wrap64 ((x0.size : Int) - 1)) ≤ (x0.size : Int) then (strings_trimRightByte.l0 k (x0.extract 0 ((wrap64 ((x0.size : Int) - 1)) : Int).toNat) x1) else (none)) else (some x0)) else (none)) else (none)) else (some x0)
def strings_trimRightByte.f (k : Nat) (a0 : ByteArray) (a1 : Int) : Option (ByteArray) := strings_trimRightByte.l0 k a0 a1
set_option maxHeartbeats 8000000 in
set_option maxRecDepth 100000 in
theorem strings_trimRightByte.calls (k : Nat) (a0 : ByteArray) (a1 : Int) (r : ByteArray) (w : World) (h : strings_trimRightByte.f k a0 a1 = some r) :
    Calls Tryd.prog 66 #[.string a0, .int .u8 a1] w fun e w' => e = .returned (.string r) ∧ Drawn0 w w' := by
  have H : (strings_trimRightByte.l0 k a0 a1) = some r := h
  clear h
  have H' := Aside0.mk H
  clear H
  go_enter Tryd.func66, Tryd.ntmps66
  go_wp2
  go_loopg [0] k (fun kq v0 w' => ∃ (x0_1 : ByteArray), v0 = .string x0_1 ∧ Aside0 (strings_trimRightByte.l0 kq x0_1 a1 = some r) ∧ Aside0 (kq ≤ k) ∧ Drawn0 w w')
  case atStart => exact ⟨(a0), (by first | rfl | (simp; done) | (simp [*]; done)), H', ⟨Nat.le_refl _⟩, by repeat (first | exact Drawn0.refl _ | apply Drawn0.step)⟩
  case round =>
    clear H'
    try clear p2
    obtain ⟨x0_1, rfl, HA, HK1, ⟨m1, rfl⟩⟩ := hrel
    cases gk with
    | zero => exact absurd HA.out (by simp [strings_trimRightByte.l0])
    | succ k1 =>
      have H := HA.out
      clear HA
      simp only [strings_trimRightByte.l0] at H
      by_cases c3 : (x0_1.size : Int) > 0
      · rw [if_pos c3] at H
        have c3b0 : decide (0 < (x0_1.size : Int)) = true := decide_eq_true c3
        have c3b1 : decide (0 < x0_1.size) = true := decide_eq_true (by omega)
        clear c3
        obtain ⟨ji4, hji4⟩ : ∃ j_ : Int, (wrap64 ((x0_1.size : Int) - 1)) = j_ := ⟨_, rfl⟩
        replace H : (if 0 ≤ (ji4) then (if (ji4) < (x0_1.size : Int) then (if (bt x0_1 (ji4)) = a1 then (if (ji4) ≤ (x0_1.size : Int) then (strings_trimRightByte.l0 k1 (x0_1.extract 0 ((ji4) : Int).toNat) a1) else (none)) else (some x0_1)) else (none)) else (none)) = some r := by first | (rw [hji4] at H; exact H) | (simp only [hji4] at H ⊢; exact H)
        have hji4w : (IntKind.i64.wrap ((x0_1.size : Int) - 1)) = ji4 := (i64_w _).trans hji4
        by_cases c5 : 0 ≤ (ji4)
        · rw [if_pos c5] at H
          have c5b0 : decide (0 ≤ (ji4)) = true := decide_eq_true c5
          clear c5
          by_cases c6 : (ji4) < (x0_1.size : Int)
          · rw [if_pos c6] at H
            have c6b0 : decide ((ji4) < (x0_1.size : Int)) = true := decide_eq_true c6
            clear c6
            by_cases c8 : (bt x0_1 (ji4)) = a1
            · rw [if_pos c8] at H
              have c8b0 : ((bt x0_1 (ji4)) == a1) = true := beq_iff_eq.mpr c8
              have c8b1 : ((bt x0_1 (ji4)) != a1) = false := bne_eq_false_iff_eq.mpr c8
              clear c8
              have c9b0 := eq_true (of_decide_eq_true (by first | (with_reducible assumption) | assumption) : 0 ≤ (ji4))
              by_cases c10 : (ji4) ≤ (x0_1.size : Int)
              · rw [if_pos c10] at H
                have c10b0 := eq_true c10
                have c10b1 : decide ((ji4) ≤ (x0_1.size : Int)) = true := decide_eq_true c10
                clear c10
                have H' := Aside0.mk H
                clear H
                have p7 : 0 ≤ ((ji4) : Int) := of_decide_eq_true (by first | (with_reducible assumption) | assumption)
                have q7 : (ji4) < (x0_1.size : Int) := of_decide_eq_true (by first | (with_reducible assumption) | assumption)
                have hx7 := bt_at x0_1 (ji4)
                replace p7 := eq_true p7
                replace q7 := eq_true q7
                go_wp2
                go_roundg k1
                case measure => have := HK1.out; omega
                case rel => exact ⟨(x0_1.extract 0 ((ji4) : Int).toNat), (by first | rfl | (simp; done) | (simp only [← hji4] <;> (first | rfl | simp)) | (simp [*]; done)), H', ⟨by have := HK1.out; omega⟩, by repeat (first | exact Drawn0.refl _ | apply Drawn0.step)⟩
              · rw [if_neg c10] at H
                exact absurd H (by simp)
            · rw [if_neg c8] at H
              have c8b0 : ((bt x0_1 (ji4)) == a1) = false := beq_eq_false_iff_ne.mpr c8
              have c8b1 : ((bt x0_1 (ji4)) != a1) = true := bne_iff_ne.mpr c8
              obtain rfl := Option.some.inj H
              have p7 : 0 ≤ ((ji4) : Int) := of_decide_eq_true (by first | (with_reducible assumption) | assumption)
              have q7 : (ji4) < (x0_1.size : Int) := of_decide_eq_true (by first | (with_reducible assumption) | assumption)
              have hx7 := bt_at x0_1 (ji4)
              replace p7 := eq_true p7
              replace q7 := eq_true q7
              go_wp2
              go_ret
              exact ⟨by first | rfl | (simp; done) | (simp only [← hji4] <;> (first | rfl | simp)) | (simp [*]; done), by repeat (first | exact Drawn0.refl _ | apply Drawn0.step)⟩
          · rw [if_neg c6] at H
            exact absurd H (by simp)
        · rw [if_neg c5] at H
          exact absurd H (by simp)
      · rw [if_neg c3] at H
        have c3b0 : decide (0 < (x0_1.size : Int)) = false := decide_eq_false c3
        have c3b1 : decide (0 < x0_1.size) = false := decide_eq_false (by omega)
        clear c3
        obtain rfl := Option.some.inj H
        go_wp2
        go_ret
        exact ⟨by first | rfl | (simp; done) | (simp [*]; done), by repeat (first | exact Drawn0.refl _ | apply Drawn0.step)⟩
def sluicegatelaw08_own.f (a0_0 : ByteArray) (a0_1 : ByteArray) : Option (ByteArray × ByteArray) := some (a0_0, a0_1)
set_option maxHeartbeats 8000000 in
set_option maxRecDepth 100000 in
theorem sluicegatelaw08_own.calls (a0_0 : ByteArray) (a0_1 : ByteArray) (r1 : ByteArray) (r2 : ByteArray) (w : World) (h : sluicegatelaw08_own.f a0_0 a0_1 = some (r1, r2)) :
    Calls Tryd.prog 11 #[.agg #[.string a0_0, .string a0_1]] w fun e w' => e = .returned (.agg #[.string r1, .string r2]) ∧ Below w.heap.size w w' := by
  have hu23 := Tryd.underlying23
  have hu28 := Tryd.underlying28
  have HB := Aside0.mk (Below.refl w.heap.size w)
  have H : (some (a0_0, a0_1)) = some (r1, r2) := h
  clear h
  simp only [Option.some.injEq, Prod.mk.injEq] at H
  obtain ⟨rfl, rfl⟩ := H
  go_enter Tryd.func11, Tryd.ntmps11
  go_wp2_with (first | ((with_reducible refine gate_dst (N := 1) rfl ?_); refine box_event ?hg (N := 1) ?hd (cs := #[.string a0_0, .string a0_1]) (t := 23) ?hr ?_; (case hd => rfl); (case hg => rfl); (case hr => first | (go_simp; done) | (go_simp; rfl)); intro gb198 hg w2 hbox hb; have n0_ := Aside0.mk (below_step (by repeat (first | (with_reducible first | exact HB.out | apply below_alloc | apply pw_below_drewN | apply below_drew1) | exact HB.out)) hb); have n1_ := Aside0.mk (hbox); have n2_ := Aside0.mk ((by rw [hg]; exact (below_size (by repeat (first | (with_reducible first | exact HB.out | apply below_alloc | apply pw_below_drewN | apply below_drew1) | exact HB.out))) : w.heap.size ≤ gb198)); have n3_ := Aside0.mk ((by rw [hg]; exact (below_size (by repeat (first | (with_reducible first | exact HB.out | apply below_alloc | apply pw_below_drewN | apply below_drew1) | exact HB.out))) : w.heap.size ≤ gb198)); clear HB; have HB := n0_; have BK198 := n1_; have GW198 := n2_; have GE198 := n3_; clear n0_ n1_ n2_ n3_; clear hb hbox hg) | ((with_reducible refine gate_dst (N := 2) rfl ?_); refine box_event ?hg (N := 2) ?hd (cs := #[.string (⟨#[]⟩ : ByteArray), .string (⟨#[]⟩ : ByteArray)]) (t := 28) ?hr ?_; (case hd => rfl); (case hg => rfl); (case hr => first | (go_simp; done) | (go_simp; rfl)); intro gb199 hg w3 hbox hb; have n0_ := Aside0.mk (blk_below (g := gb198) (o := .cells #[.string a0_0, .string a0_1] 23 (0, 0)) (by (with_reducible repeat (first | refine blk_drewN ?_ _ | refine blk_drew ?_ | refine blk_alloc ?_ _)); exact BK198.out) hb); have n1_ := Aside0.mk (below_step (by repeat (first | (with_reducible first | exact HB.out | apply below_alloc | apply pw_below_drewN | apply below_drew1 | refine below_set ?_ GE198.out) | exact HB.out)) hb); have n2_ := Aside0.mk (hbox); have n3_ := Aside0.mk ((by rw [hg]; exact (below_size (by repeat (first | (with_reducible first | exact HB.out | apply below_alloc | apply pw_below_drewN | apply below_drew1 | refine below_set ?_ GE198.out) | exact HB.out))) : w.heap.size ≤ gb199)); have n4_ := Aside0.mk ((by rw [hg]; exact (below_size (by repeat (first | (with_reducible first | exact HB.out | apply below_alloc | apply pw_below_drewN | apply below_drew1 | refine below_set ?_ GE198.out) | exact HB.out))) : w.heap.size ≤ gb199)); have n5_ := Aside0.mk ((by rw [hg]; exact Nat.ne_of_lt (blk_lt (g := gb198) (o := .cells #[.string a0_0, .string a0_1] 23 (0, 0)) (by (with_reducible repeat (first | refine blk_drewN ?_ _ | refine blk_drew ?_ | refine blk_alloc ?_ _)); exact BK198.out)) : gb198 ≠ gb199)); have n6_ := Aside0.mk ((by rw [hg]; exact Nat.ne_of_gt (blk_lt (g := gb198) (o := .cells #[.string a0_0, .string a0_1] 23 (0, 0)) (by (with_reducible repeat (first | refine blk_drewN ?_ _ | refine blk_drew ?_ | refine blk_alloc ?_ _)); exact BK198.out)) : gb199 ≠ gb198)); clear BK198; clear HB; have BK198 := n0_; have HB := n1_; have BK199 := n2_; have GW199 := n3_; have GE199 := n4_; have NB198_199 := n5_; have NB199_198 := n6_; clear n0_ n1_ n2_ n3_ n4_ n5_ n6_; clear hb hbox hg; have hnb4 := NB198_199.out; have hnc4 := NB199_198.out; have hcz5_0 : w3.cell? ⟨gb198, 0, none⟩ = some (.string a0_0) := (blk_cell BK198.out 0).trans rfl; have hcz5_1 : w3.cell? ⟨gb198, 1, none⟩ = some (.string a0_1) := (blk_cell BK198.out 1).trans rfl; have hfz5_0 := blk_frozen BK198.out 0; have hfz5_1 := blk_frozen BK198.out 1; have hcz6_0 : w3.cell? ⟨gb199, 0, none⟩ = some (.string (⟨#[]⟩ : ByteArray)) := (blk_cell BK199.out 0).trans rfl; have hcz6_1 : w3.cell? ⟨gb199, 1, none⟩ = some (.string (⟨#[]⟩ : ByteArray)) := (blk_cell BK199.out 1).trans rfl; have hfz6_0 := blk_frozen BK199.out 0; have hfz6_1 := blk_frozen BK199.out 1))
  refine bodyPost_ret (results_cell_row rfl _ _ gb199 28 #[.string a0_0, .string a0_1] (0, 0) _ rfl (by (with_reducible repeat (first | refine blk_drewN ?_ _ | refine blk_drew ?_ | refine blk_alloc ?_ _)); refine blk_put (cs := #[.string a0_0, .string (⟨#[]⟩ : ByteArray)]) ?_ 1 _ rfl; (with_reducible repeat (first | refine blk_drewN ?_ _ | refine blk_drew ?_ | refine blk_alloc ?_ _)); refine blk_put (cs := #[.string (⟨#[]⟩ : ByteArray), .string (⟨#[]⟩ : ByteArray)]) ?_ 0 _ rfl; (with_reducible repeat (first | refine blk_drewN ?_ _ | refine blk_drew ?_ | refine blk_alloc ?_ _)); exact BK199.out) Tryd.underlying28 rfl (by kernel_rfl)) rfl ?_
  exact ⟨by first | rfl | (simp [errW_none, errW_some] <;> rfl) | (simp [*, errW_none, errW_some] <;> rfl), by repeat (first | (with_reducible first | exact HB.out | apply below_alloc | apply pw_below_drewN | apply below_drew1 | refine below_set ?_ GE198.out | refine below_set ?_ GE199.out) | exact HB.out)⟩
end Go.Proofs.YtpgfafpjfdbjmaaDoor.Q
end
section
namespace Go.Proofs.YtpgfafpjfdbjmaaDoor
section
variable {P : Program} {ops : Array Oper} {md : Region.Mode} {C : World → Prop}
def headQ (P : Program) (md : Region.Mode) (ops : Array Oper) (C : World → Prop) (n : Nat) (L : Array Bool → Act → Prop) : Nat → Array Bool → Act → Prop
  | 0, listed, a => L listed a
  | f + 1, listed, a => Region.ready md ops listed ≠ [] ∧ ∀ i ∈ Region.ready md ops listed, i < n ∧ qOp P ops C i (headQ P md ops C n L f (listed.setIfInBounds i true)) a
theorem headQ_any {n g : Nat} {L : Array Bool → Act → Prop} {Q : Exit → Act → World → Prop} (hL : ∀ listed a w, C w → L listed a → wpAny P md ops Q g listed a w) :
    ∀ (f : Nat) (listed : Array Bool) (a : Act) (w : World), C w → headQ P md ops C n L f listed a → wpAny P md ops Q (f + g) listed a w
  | 0, _, _, _, hw, h => by rw [Nat.zero_add]; exact hL _ _ _ hw h
  | f + 1, _, _, _, hw, h => by
    rw [show f + 1 + g = (f + g) + 1 by omega]
    exact ⟨fun h0 => absurd h0 h.1, fun i hi => wpOp_of_qOp hw (fun a' w' hw' h' => headQ_any hL f _ a' w' hw' h') (h.2 i hi).2⟩
theorem headQ_first {n i : Nat} {oi : Oper} {v : Value} {L : Array Bool → Act → Prop} (hi : ops[i]? = some oi) (hsel : ∀ (j : Nat) (o : Oper) cs b, ops[j]? = some o → o.op ≠ .select cs b)
    (hs : Region.sinkB md ops n = true) (hc : Region.chainB md ops n = true) (hn : n < ops.size) (hin : i < n)
    (hdone : ∀ listed a, L listed a → ∀ j ∈ Region.ready md ops listed, n ≤ j) :
    ∀ (f : Nat) (listed : Array Bool) (a : Act), HeadInv md ops n listed →
      (∀ j oj, ops[j]? = some oj → j ≠ i → listed.getD j true = false → (∀ e ∈ oj.after, Region.binds md e = true → e.on ≠ i) → oi.apart ops oj = true) →
      i ∈ Region.ready md ops listed → YieldsIn P ops C oi v a →
      headQ P md ops C n L f (listed.setIfInBounds i true) (a.put oi.dst v) → headQ P md ops C n L (f + 1) listed a := by
  intro f
  induction f with
  | zero =>
    intro listed a inv _ hr hy H
    have hun := (mem_ready.1 hr).1
    refine ⟨fun h => (by rw [h] at hr; cases hr), fun j hj => ?_⟩
    have hjn : j < n := by
      rcases Nat.lt_or_ge j n with h | h
      · exact h
      · exact absurd hj (tail_waits hs hc hn inv _ i rfl hin hun j h)
    refine ⟨hjn, ?_⟩
    by_cases hji : j = i
    · subst hji; exact hy.qOp hi H
    · have := hdone _ _ H j (ready_mono hj hji)
      omega
  | succ f ih =>
    intro listed a inv hfree hr hy H
    have hun := (mem_ready.1 hr).1
    refine ⟨fun h => (by rw [h] at hr; cases hr), fun j hj => ?_⟩
    have hjn : j < n := by
      rcases Nat.lt_or_ge j n with h | h
      · exact h
      · exact absurd hj (tail_waits hs hc hn inv _ i rfl hin hun j h)
    refine ⟨hjn, ?_⟩
    by_cases hji : j = i
    · subst hji; exact hy.qOp hi H
    · have h1 := (H.2 j (ready_mono hj hji)).2
      obtain ⟨hjun, oj, hoj, hall⟩ := mem_ready.1 hj
      have hnot : ∀ e ∈ oj.after, Region.binds md e = true → e.on ≠ i := fun e he hb heq => by
        have h1 := hall e he hb
        rw [heq, getD_both hun] at h1
        cases h1
      have h2 := qOp_put hoj (hfree j oj hoj hji hjun hnot) (fun cs b => hsel i oi cs b hi) (fun cs b => hsel j oj cs b hoj) hy h1
      have hfree' : ∀ k ok, ops[k]? = some ok → k ≠ i → (listed.setIfInBounds j true).getD k true = false →
          (∀ e ∈ ok.after, Region.binds md e = true → e.on ≠ i) → oi.apart ops ok = true := fun k ok hk hki hun hno => by
        refine hfree k ok hk hki ?_ hno
        by_cases hjk : j = k
        · subst hjk; exact hjun
        · rw [getD_set_ne true hjk] at hun; exact hun
      refine qOp_mono (fun a' h3 => ih (listed.setIfInBounds j true) a' (inv.set hj hjn) hfree' (ready_mono hr (Ne.symm hji)) h3.1 ?_) h2
      rw [Array.setIfInBounds_comm _ _ hji]
      exact h3.2
theorem headQ_lex {n g : Nat} {Lq : Act → Prop} (hsel : Region.noSelect ops = true) (hs : Region.sinkB md ops n = true) (hc : Region.chainB md ops n = true) (hn : n < ops.size) :
    ∀ (l : List Oper) (k : Nat) (listed : Array Bool) (a : Act), (∀ j, j < l.length → l[j]? = ops[k + j]?) → k + l.length = n → HeadInv md ops n listed →
    Region.lexHead md ops g l.length k listed = true → wpQuiet P ops C Lq l a →
    headQ P md ops C n (fun listed' a' => Region.seqB md ops g n listed' = true ∧ Lq a') l.length listed a
  | [], k, listed, a, _, hk, _, hB, h => by
    have : k = n := by simpa using hk
    subst this
    exact ⟨by simpa [Region.lexHead] using hB, h⟩
  | o :: l, k, listed, a, hl, hk, inv, hB, h => by
    have h0 : ops[k]? = some o := by simpa using (hl 0 (by simp)).symm
    simp only [List.length_cons, Region.lexHead, Bool.and_eq_true] at hB
    obtain ⟨⟨hr, hf⟩, hB'⟩ := hB
    have hkn : k < n := by simp only [List.length_cons] at hk; omega
    have hr' : k ∈ Region.ready md ops listed := by simpa using hr
    have hst : qOp P ops C k (wpQuiet P ops C Lq l) a := by unfold qOp; simp only [h0]; exact h
    obtain ⟨v, hy, hK⟩ := yieldsIn_of_qOp h0 hst
    exact headQ_first h0 (Region.noSelect_spec hsel) hs hc hn hkn (fun listed' a' hL => seqB_ready hL.1) l.length listed a inv (Region.free_spec h0 hf) hr' hy
      (headQ_lex hsel hs hc hn l (k + 1) _ _ (fun j hj => by have := hl (j + 1) (by simp; omega); simpa [Nat.add_assoc, Nat.add_comm 1 j] using this) (by simp only [List.length_cons] at hk; omega) (inv.set hr' hkn) hB' hK)
theorem region_class_tail (C : World → Prop) {id : Nat} {Q : Exit → Act → World → Prop} {a : Act} {w : World} {l : List Oper} (n : Nat) (hm : P.follows .mixedOrders = true) (hB : Region.lexTailB .any l.toArray n = true) (hC : C (w.drewN 1))
    (h : wpQuiet P l.toArray C (fun a' => ∀ w', C w' → wpList P l.toArray Q (l.drop n) a' w') (l.take n) a) : (Code.region id l.toArray true).wp P Q a w := by
  simp only [Region.lexTailB, Bool.and_eq_true, decide_eq_true_eq] at hB
  obtain ⟨⟨⟨⟨hsel, hn⟩, hs⟩, hc⟩, hlex⟩ := hB
  have hn' : n < l.length := by simpa using hn
  have htl : (l.take n).length = n := by simp; omega
  have hdl : (l.drop n).length = l.toArray.size - n := by simp
  have inv0 : HeadInv .any l.toArray n (Array.replicate l.toArray.size false) :=
    ⟨by simp, fun j oj _ hl => (by rw [getD_replicate_false] at hl; cases hl), fun t _ ht => getD_in (by simpa using ht) (getD_replicate_false _ _)⟩
  have H := headQ_lex (md := .any) (g := l.toArray.size - n) hsel hs hc hn (l.take n) 0 _ a (fun j hj => by
    have hj' : j < n := by rw [htl] at hj; exact hj
    simp [hj']) (by simpa using htl) inv0 (by rw [htl]; exact hlex) h
  refine wp_region_any hm ?_
  have := headQ_any (Q := Q) (g := l.toArray.size - n) (fun listed a' w' hw' hL => by
    have := wpAny_of_seq (md := .any) (Q' := Q) (l.drop n) n listed a' w' (fun j => by simp [List.getElem?_drop]) (by rw [hdl]; exact hL.1) (hL.2 w' hw')
    rwa [hdl] at this) _ _ _ (w.drewN 1) hC H
  rw [htl, show n + (l.toArray.size - n) = l.toArray.size by omega] at this
  exact this
theorem region_quiet_tail {id : Nat} {Q : Exit → Act → World → Prop} {a : Act} {w : World} {l : List Oper} (n : Nat) (hm : P.follows .mixedOrders = true) (hB : Region.lexTailB .any l.toArray n = true)
    (h : wpQuiet P l.toArray (fun w' => ∃ n, w' = w.drewN n) (fun a' => ∀ w', (∃ n, w' = w.drewN n) → wpList P l.toArray Q (l.drop n) a' w') (l.take n) a) : (Code.region id l.toArray true).wp P Q a w :=
  region_class_tail (fun w' => ∃ n, w' = w.drewN n) n hm hB ⟨1, rfl⟩ h
theorem q_val {o : Oper} {rest : List Oper} {Q : Act → Prop} {a : Act} (v : Value) (N : Option Tmp) (hN : o.dst = N) (hw : Region.wanted o (yielded ops a.tmps) = true) (hrun : ∀ w', C w' → (execOp a.eval o).run P w' = .ok (.value v) w')
    (h : wpQuiet P ops C Q rest (a.put N v)) : wpQuiet P ops C Q (o :: rest) a := by
  subst hN
  refine wpQuiet_step (fun K hK => ?_)
  rw [if_pos hw]
  refine ⟨v, fun w' hw' => ?_, hK _ h⟩
  unfold Oper.quietAt
  rw [hrun w' hw']
  exact ⟨rfl, rfl⟩
theorem q_call {o : Oper} {rest : List Oper} {Q : Act → Prop} {a : Act} (f : FuncId) (args : Array Value) (v : Value) (N : Option Tmp) (hN : o.dst = N) (hw : Region.wanted o (yielded ops a.tmps) = true) (hrun : ∀ w', (execOp a.eval o).run P w' = .ok (.enter f args) w')
    (hc : ∀ w', C w' → Calls P f args w' fun e w'' => e = .returned v ∧ C w'') (h : wpQuiet P ops C Q rest (a.put N v)) : wpQuiet P ops C Q (o :: rest) a := by
  subst hN
  refine wpQuiet_step (fun K hK => ?_)
  rw [if_pos hw]
  refine ⟨v, fun w' hw' => ?_, hK _ h⟩
  unfold Oper.quietAt
  rw [hrun w']
  exact ⟨rfl, hc w' hw'⟩
end
end Go.Proofs.YtpgfafpjfdbjmaaDoor
namespace Go.Proofs.YtpgfafpjfdbjmaaDoor
open Go.RowKit
section
variable {P : Program} {ops : Array Oper} {W0 : World}
theorem region_below_tail {id : Nat} {Q : Exit → Act → World → Prop} {a : Act} {w : World} {l : List Oper} (n : Nat) (hm : P.follows .mixedOrders = true) (hB : Region.lexTailB .any l.toArray n = true)
    (h : wpQuiet P l.toArray (Below w.heap.size w) (fun a' => ∀ w', Below w.heap.size w w' → wpList P l.toArray Q (l.drop n) a' w') (l.take n) a) : (Code.region id l.toArray true).wp P Q a w :=
  region_class_tail (Below w.heap.size w) n hm hB (Below.drew (Below.refl _ _)) h
theorem q_ld {o : Oper} {rest : List Oper} {Q : Act → Prop} {a : Act} (T : TypeId) (x : Operand) (N : Nat) (ad : Addr) (v : Value) (ho : o.op = .load T x) (hN : o.dst = some N) (hg : o.guard = none) (hx : a.eval x = .pointer (some ad))
    (hT : ∀ (w' : World), w'.cell? ad = some v → (Instr.loadAt T (.pointer (some ad))).run P w' = .ok v w') (hc : W0.cell? ad = some v) (hlt : ad.block < W0.heap.size)
    (h : wpQuiet P ops (Below W0.heap.size W0) Q rest (a.put (some N) v)) : wpQuiet P ops (Below W0.heap.size W0) Q (o :: rest) a := by
  refine q_val v (some N) hN (by unfold Region.wanted; rw [hg]) (fun w' hw' => ?_) h
  have := hT w' ((hw'.cell hlt).trans hc)
  unfold execOp
  simp only [ho, hx, Sem.run_bind, this, Result.andThen_ok, Sem.run_pure]
theorem q_go {o : Oper} {rest : List Oper} {Q : Act → Prop} {a : Act} {f : FuncId} {fn : Func} {ops1 : Array Operand} {ts : Array TypeId} (hf : P.funcs[f]? = some fn) (hname : (fn.name == "runtime.NumGoroutine") = false) (hb : fn.body.isSome = true) (args : Array Value) (v : Value) (N : Nat)
    (hop : o.op = .call { callee := .value (.func f), args := ops1, argTypes := ts }) (hN : o.dst = some N) (hg : o.guard = none) (hargs : ops1.map a.eval = args)
    (hc : ∀ w', Below W0.heap.size W0 w' → Calls P f args w' fun e w'' => e = .returned v ∧ Below w'.heap.size w' w'')
    (h : wpQuiet P ops (Below W0.heap.size W0) Q rest (a.put (some N) v)) : wpQuiet P ops (Below W0.heap.size W0) Q (o :: rest) a := by
  refine q_call f args v (some N) hN (by unfold Region.wanted; rw [hg]) (fun w' => ?_) (fun w' hw' => ?_) h
  · have h1 : fn.name ≠ "runtime.NumGoroutine" := by simpa using hname
    obtain ⟨c, hc'⟩ := Option.isSome_iff_exists.1 hb
    unfold execOp
    simp [hop, resolve, Deferred.ofValue, invoke, Act.eval, hargs, callFunc, hf, h1, hc']
  · refine (hc w' hw').mono ?_
    rintro e w'' ⟨he, hb'⟩
    exact ⟨he, hw'.trans (hb'.mono hw'.size)⟩
end
theorem ld_str (ad : Addr) (v : Value) (w : World) (h : w.cell? ad = some v) : (Instr.loadAt 9 (.pointer (some ad))).run Tryd.prog w = .ok v w := by
  go_simp
end Go.Proofs.YtpgfafpjfdbjmaaDoor
end
section
namespace Go.Proofs.YtpgfafpjfdbjmaaDoor
end Go.Proofs.YtpgfafpjfdbjmaaDoor
end
section
namespace Go.Proofs.YtpgfafpjfdbjmaaDoor.Q
end Go.Proofs.YtpgfafpjfdbjmaaDoor.Q
end
section
namespace Go.Proofs.YtpgfafpjfdbjmaaDoor.Q
end Go.Proofs.YtpgfafpjfdbjmaaDoor.Q
end
section
namespace Go.Proofs.YtpgfafpjfdbjmaaDoor.Q
end Go.Proofs.YtpgfafpjfdbjmaaDoor.Q
end
section
namespace Go.Proofs.YtpgfafpjfdbjmaaDoor
open Go.RowKit
def BT (T : TypeId) : Prop := T ≠ 5 ∧ liesAt Tryd.prog Tryd.prog.depth T (2 / Tryd.prog.cellsOf T) 0 101 1 = true
theorem bt_builder : BT 101 := ⟨by decide, by kernel_rfl⟩
def BdAt (B b : Nat) (p v : Value) (l : List UInt8) (w : World) : Prop :=
  ∃ T, BT T ∧ w.heap[b]? = some (.cells #[p, v] T (0, 0)) ∧ w.ownsRowF B 5 1 v l.length (Lib.byteCells l) ∧ v.ownBlock ≠ some b ∧ (l = [] → v = .slice none 0 0)
def Bd (B b : Nat) (l : List UInt8) (w : World) : Prop :=
  ∃ p v, (p = .pointer none ∨ p = .pointer (some ⟨b, 0, none⟩)) ∧ BdAt B b p v l w
structure Bf (B b : Nat) (w w' : World) : Prop where
  os : w'.os = w.os
  tape : w'.tape = w.tape
  output : w'.output = w.output
  size : w.heap.size ≤ w'.heap.size
  block : ∀ k, k < B → k ≠ b → w'.heap[k]? = w.heap[k]?
theorem Bf.refl (B b : Nat) (w : World) : Bf B b w w := ⟨rfl, rfl, rfl, Nat.le_refl _, fun _ _ _ => rfl⟩
theorem Bf.trans {B b : Nat} {w w1 w2 : World} (h : Bf B b w w1) (k : Bf B b w1 w2) : Bf B b w w2 :=
  ⟨k.os.trans h.os, k.tape.trans h.tape, k.output.trans h.output, Nat.le_trans h.size k.size, fun i hi hne => (k.block i hi hne).trans (h.block i hi hne)⟩
theorem Bf.below {B b S : Nat} {w w' : World} (h : Bf B b w w') (h1 : S ≤ B) (h2 : S ≤ b) : Below S w w' :=
  ⟨h.os, h.tape, h.output, h.size, fun k hk => h.block k (by omega) (by omega)⟩
theorem Bf.of_below {B b : Nat} {w w' : World} (h : Below w.heap.size w w') (hB : B ≤ w.heap.size) : Bf B b w w' :=
  ⟨h.os, h.tape, h.output, h.size, fun k hk _ => h.block k (by omega)⟩
theorem Bf.cell {B b : Nat} {w w' : World} (h : Bf B b w w') {a : Addr} {v : Value} (hc : w.cell? a = some v) (h1 : a.block < B) (h2 : a.block ≠ b) : w'.cell? a = some v :=
  (World.cell?_of_block (h.block a.block h1 h2)).trans hc
theorem BdAt.keep {B b : Nat} {p v : Value} {l : List UInt8} {w w' : World} (h : BdAt B b p v l w) (hk : ∀ k, k < w.heap.size → w'.heap[k]? = w.heap[k]?) : BdAt B b p v l w' := by
  obtain ⟨T, hT, h1, h2, h3, h4⟩ := h
  have hlt := (Array.getElem?_eq_some_iff.1 h1).1
  refine ⟨T, hT, (hk b hlt).trans h1, ⟨h2.1, ?_⟩, h3, h4⟩
  rcases h2.2 with hn | ⟨g, cap, cur, fz, rfl, hb, hg, rest⟩
  · exact .inl hn
  · exact .inr ⟨g, cap, cur, fz, rfl, hb, (hk g (Array.getElem?_eq_some_iff.1 hg).1).trans hg, rest⟩
theorem Bd.keep {B b : Nat} {l : List UInt8} {w w' : World} (h : Bd B b l w) (hb : Below w.heap.size w w') : Bd B b l w' := by
  obtain ⟨p, v, hp, h⟩ := h
  exact ⟨p, v, hp, h.keep hb.block⟩
theorem Bd.lt {B b : Nat} {l : List UInt8} {w : World} (h : Bd B b l w) : b < w.heap.size := by
  obtain ⟨p, v, hp, T, hT, h⟩ := h
  exact (Array.getElem?_eq_some_iff.1 h.1).1
theorem Bd.freshT {T : TypeId} (hT : BT T) (B b : Nat) (w : World) (h : w.heap[b]? = some (.cells #[.pointer none, .slice none 0 0] T (0, 0))) : Bd B b [] w :=
  ⟨_, _, .inl rfl, T, hT, h, World.ownsRowF_nil w B _ 1, by simp [Value.ownBlock], fun _ => rfl⟩
theorem Bd.fresh (B b : Nat) (w : World) (h : w.heap[b]? = some (.cells #[.pointer none, .slice none 0 0] 101 (0, 0))) : Bd B b [] w := Bd.freshT bt_builder B b w h
theorem Bd.new (B : Nat) (w : World) : Bd B w.heap.size [] (w.alloc (.cells #[.pointer none, .slice none 0 0] 101)) :=
  Bd.fresh B _ _ (heap_alloc_new w _)
set_option maxHeartbeats 1000000 in
set_option maxRecDepth 100000 in
theorem bcc_fresh (B b : Nat) (v : Value) (l : List UInt8) (w : World) (h : BdAt B b (.pointer none) v l w) :
    Calls Tryd.prog 80 #[.pointer (some ⟨b, 0, none⟩)] w fun e w' => e = .returned (.tuple #[]) ∧ w' = w.setCell ⟨b, 0, none⟩ (.pointer (some ⟨b, 0, none⟩)) := by
  obtain ⟨T, hT, h⟩ := h
  have h0 : w.cell? ⟨b, 0, none⟩ = some (.pointer none) := by simp [World.cell?, h.1]
  have hsh : w.shape? b = some (T, 2) := by simp [World.shape?, h.1]
  have hfz : w.frozen? ⟨b, 0, none⟩ = false := by simp [World.frozen?, h.1]
  obtain ⟨j, hj, hjs⟩ := Option.map_eq_some_iff.1 (show (Tryd.prog.info? 101).map (·.size) = some 2 by kernel_rfl)
  clear h
  go_enter Tryd.func80, Tryd.ntmps80
  go_wp2
  rw [Lib.run_to_unsafe w ⟨b, 0, none⟩ (t := 101) (by kernel_rfl) (by kernel_rfl) hj (by rw [hjs]; decide) hsh (Nat.zero_lt_succ 1)]
  simp only [Result.andThen]
  rw [Oper.upon_value]
  go_wp2
  rw [run_callFunc_extern Tryd.func88 (by kernel_rfl) (by kernel_rfl) (by kernel_rfl) (e := Extern.AbiNoEscape.same) (by kernel_rfl)]
  rw [Lib.run_noEscape]
  simp only [Result.andThen]
  rw [Oper.upon_value]
  go_wp2
  rw [Lib.run_from_unsafe w ⟨b, 0, none⟩ (u := 101) (by kernel_rfl) (by kernel_rfl) hj hsh hT.2]
  simp only [Result.andThen]
  rw [Oper.upon_value]
  go_wp2
  go_end0
  exact ⟨rfl, rfl⟩
set_option maxHeartbeats 1000000 in
set_option maxRecDepth 100000 in
theorem bcc_used (B b : Nat) (v : Value) (l : List UInt8) (w : World) (h : BdAt B b (.pointer (some ⟨b, 0, none⟩)) v l w) :
    Calls Tryd.prog 80 #[.pointer (some ⟨b, 0, none⟩)] w fun e w' => e = .returned (.tuple #[]) ∧ w' = w := by
  obtain ⟨T, hT, h⟩ := h
  have h0 : w.cell? ⟨b, 0, none⟩ = some (.pointer (some ⟨b, 0, none⟩)) := by simp [World.cell?, h.1]
  obtain ⟨j, hj, _⟩ := Option.map_eq_some_iff.1 (show (Tryd.prog.info? 101).map (·.size) = some 2 by kernel_rfl)
  clear h
  go_enter Tryd.func80, Tryd.ntmps80
  go_wp2
  rw [Lib.run_neq_ptr_same w _ (te := 101) (by kernel_rfl) hj]
  go_wp2
  go_end0
  exact ⟨rfl, rfl⟩
theorem BdAt.used {B b : Nat} {p v : Value} {l : List UInt8} {w : World} (h : BdAt B b p v l w) (q : Value) : BdAt B b q v l (w.setCell ⟨b, 0, none⟩ q) := by
  obtain ⟨T, hT, h1, h2, h3, h4⟩ := h
  refine ⟨T, hT, ?_, ?_, h3, h4⟩
  · simp [World.setCell, Array.getElem?_modify, h1]
  · exact h2.kept (row := some b) ⟨rfl, rfl, rfl, by simp [World.setCell], fun k _ hk => Below.heap_setCell _ _ _ _ (fun e => hk (by simp [e]))⟩ (Or.inr h3)
structure Cf (b : Nat) (w w' : World) : Prop where
  os : w'.os = w.os
  tape : w'.tape = w.tape
  output : w'.output = w.output
  size : w'.heap.size = w.heap.size
  block : ∀ k, k ≠ b → w'.heap[k]? = w.heap[k]?
theorem bcc (B b : Nat) (l : List UInt8) (w : World) (h : Bd B b l w) :
    Calls Tryd.prog 80 #[.pointer (some ⟨b, 0, none⟩)] w fun e w' => e = .returned (.tuple #[]) ∧ (∃ v, BdAt B b (.pointer (some ⟨b, 0, none⟩)) v l w') ∧ Cf b w w' := by
  obtain ⟨p, v, rfl | rfl, h⟩ := h
  · refine (bcc_fresh B b v l w h).mono ?_
    rintro e w' ⟨rfl, rfl⟩
    exact ⟨rfl, ⟨v, h.used _⟩, ⟨rfl, rfl, rfl, by simp [World.setCell], fun k hk => Below.heap_setCell _ _ _ _ (fun e => hk e)⟩⟩
  · refine (bcc_used B b v l w h).mono ?_
    rintro e w' ⟨rfl, rfl⟩
    exact ⟨rfl, ⟨v, h⟩, ⟨rfl, rfl, rfl, rfl, fun _ _ => rfl⟩⟩
theorem BdAt.put {B b : Nat} {p v v' : Value} {l' : List UInt8} {w : World} {T : TypeId} (hT : BT T) (hb : w.heap[b]? = some (.cells #[p, v] T (0, 0))) (hown : w.ownsRowF B 5 1 v' l'.length (Lib.byteCells l')) (h0 : l' = [] → v' = .slice none 0 0) :
    BdAt B b p v' l' (w.setCell ⟨b, 1, none⟩ v') := by
  have hne := Lib.ownBlock_neF hown hb hT.1
  refine ⟨T, hT, ?_, ?_, hne, h0⟩
  · simp [World.setCell, Array.getElem?_modify, hb]
  · exact hown.kept (row := some b) ⟨rfl, rfl, rfl, by simp [World.setCell], fun k _ hk => Below.heap_setCell _ _ _ _ (fun e => hk (by simp [e]))⟩ (Or.inr hne)
theorem Bf.write {B b : Nat} {v v' : Value} {l : List UInt8} {w w1 w1' w2 : World} (hc : Cf b w w1) (hB : B ≤ w.heap.size) (ha : Below w1.heap.size w1 w1') (hown : w1'.ownsRowF B 5 1 v l.length (Lib.byteCells l)) (hg : w1'.grownBy w2 v.ownBlock) :
    Bf B b w (w2.setCell ⟨b, 1, none⟩ v') := by
  have hs := hc.size
  refine ⟨hg.os.trans (ha.os.trans hc.os), hg.tape.trans (ha.tape.trans hc.tape), hg.output.trans (ha.output.trans hc.output), ?_, fun k hk hne => ?_⟩
  · have := ha.size; have := hg.size; simp [World.setCell]; omega
  · have hlt := hown.lt
    rw [show (w2.setCell ⟨b, 1, none⟩ v').heap[k]? = w2.heap[k]? from Below.heap_setCell _ _ _ _ (fun e => hne e), hg.block k (by have := ha.size; omega) (fun e => by have := hlt k e.symm; omega), ha.block k (by omega), hc.block k hne]
theorem info8 : ∃ i, Tryd.prog.info? 5 = some i ∧ i.zero = some (.int .u8 0) ∧ i.size = 1 ∧ i.bytes = 1 := info_parts (by kernel_rfl)
set_option maxHeartbeats 1000000 in
set_option maxRecDepth 100000 in
theorem bString_cons (B b : Nat) (l : List UInt8) (w : World) (h : Bd B b l w) (h0 : l ≠ []) :
    Calls Tryd.prog 64 #[.pointer (some ⟨b, 0, none⟩)] w fun e w' => e = .returned (.string ⟨l.toArray⟩) ∧ Bf B b w w' := by
  obtain ⟨p, v, hp, T, hT, hbk, hown, hne, _⟩ := h
  have hl0 : l.length ≠ 0 := by simpa using h0
  obtain ⟨g, cap, cur, fz, rfl, hbg, hg, hfz, hnc, hcm, hcs, htake⟩ : ∃ g cap cur fz, v = .slice (some ⟨g, 0, none⟩) l.length cap ∧ B ≤ g ∧ w.heap[g]? = some (.cells cur 5 fz) ∧ fz.2 ≤ l.length * 1 ∧ l.length ≤ cap ∧ cap ≤ maxLen ∧ cur.size = cap * 1 ∧ cur.toList.take (l.length * 1) = Lib.byteCells l := by
    rcases hown.2 with ⟨_, hz⟩ | ⟨g, cap, cur, fz, hv, r⟩
    · exact absurd hz hl0
    · exact ⟨g, cap, cur, fz, hv, r⟩
  have c1 : w.drew.cell? ⟨b, 1, none⟩ = some (.slice (some ⟨g, 0, none⟩) l.length cap) := by
    have : w.drew.heap[b]? = some (.cells #[p, .slice (some ⟨g, 0, none⟩) l.length cap] T (0, 0)) := hbk
    rw [Lib.cell_of_heap this]; rfl
  have hSD : (Builtin.unsafeSliceData_ #[59] 127 #[.slice (some ⟨g, 0, none⟩) l.length cap]).run Tryd.prog w.drew = .ok (.pointer (some ⟨g, 0, none⟩)) w.drew :=
    Lib.run_unsafeSliceData_row _ _ _ _ _ _ (by omega)
  have hUS : (Builtin.unsafeString_ #[127, 3] 9 #[.pointer (some ⟨g, 0, none⟩), .int .i64 l.length]).run Tryd.prog w.drew = .ok (.string ⟨l.toArray⟩) (w.drew.freeze ⟨g, 0, none⟩ l.length) := by
    refine Lib.run_unsafeString_row w.drew 127 3 9 5 (by kernel_rfl) (by kernel_rfl) g cur.size (by have hg' : w.drew.heap[g]? = some (.cells cur 5 fz) := hg; simp [World.shape?, hg']) l h0 (by omega) (by unfold maxLen at hcm; omega) ?_
    intro j x hx
    have := hown.cells (g := g) rfl j (.int .u8 x.toNat) (by simp [Lib.byteCells, hx])
    exact this
  have hfin : Bf B b w (w.drew.freeze ⟨g, 0, none⟩ l.length) := by
    have := Lib.below_freeze (Below.drew (Below.refl B w)) (p := ⟨g, 0, none⟩) hbg l.length
    exact ⟨this.os, this.tape, this.output, this.size, fun k hk _ => this.block k hk⟩
  have HF := Lib.hid hfin
  have mixed : Tryd.prog.follows Departure.mixedOrders = true := by kernel_rfl
  clear hfin hown hp hbk
  go_enter Tryd.func64, Tryd.ntmps64
  go_wp2
  go_region_o
  all_goals (go_wp2; go_ret; exact ⟨rfl, HF.out⟩)
set_option maxHeartbeats 1000000 in
set_option maxRecDepth 100000 in
theorem bString_nil (B b : Nat) (w : World) (h : Bd B b [] w) :
    Calls Tryd.prog 64 #[.pointer (some ⟨b, 0, none⟩)] w fun e w' => e = .returned (.string ⟨#[]⟩) ∧ Bf B b w w' := by
  obtain ⟨p, v, hp, T, hT, hbk, hown, hne, hv⟩ := h
  obtain rfl := hv rfl
  have hUS : ∀ W, (Builtin.unsafeString_ #[127, 3] 9 #[.pointer none, .int .i64 0]).run Tryd.prog W = .ok (.string .empty) W := fun W => Lib.run_unsafeString_none W _ _ _ none
  have c1 : w.drew.cell? ⟨b, 1, none⟩ = some (.slice none 0 0) := by
    have : w.drew.heap[b]? = some (.cells #[p, .slice none 0 0] T (0, 0)) := hbk
    rw [Lib.cell_of_heap this]; rfl
  have hSD : ∀ W, (Builtin.unsafeSliceData_ #[59] 127 #[.slice none 0 0]).run Tryd.prog W = .ok (.pointer none) W := fun _ => rfl
  have hfin : Bf B b w w.drew := by
    have := Below.drew (Below.refl B w)
    exact ⟨this.os, this.tape, this.output, this.size, fun k hk _ => this.block k hk⟩
  have HF := Lib.hid hfin
  have mixed : Tryd.prog.follows Departure.mixedOrders = true := by kernel_rfl
  clear hfin hown hp hbk hv
  go_enter Tryd.func64, Tryd.ntmps64
  go_wp2
  go_region_o
  all_goals (go_wp2; go_ret; exact ⟨rfl, HF.out⟩)
theorem bString (B b : Nat) (l : List UInt8) (w : World) (h : Bd B b l w) :
    Calls Tryd.prog 64 #[.pointer (some ⟨b, 0, none⟩)] w fun e w' => e = .returned (.string ⟨l.toArray⟩) ∧ Bf B b w w' := by
  cases l with
  | nil => exact bString_nil B b w h
  | cons x r => exact bString_cons B b (x :: r) w h (by simp)
end Go.Proofs.YtpgfafpjfdbjmaaDoor
end
section
namespace Go.Proofs.YtpgfafpjfdbjmaaDoor
open Go.RowKit Q Go.Proofs.YtpgfafpjfdbjmaaDoorW.PrintWords Go.Proofs.YtpgfafpjfdbjmaaDoorW.PrintLast Go.Proofs.YtpgfafpjfdbjmaaDoorW.PrintMore
def arr (k : IntKind) (xs : List Int) : Array Value := (xs.map (Value.int k)).toArray
theorem arr_set (k : IntKind) (xs : List Int) (i : Nat) (v : Int) : (arr k xs).setIfInBounds i (.int k v) = arr k (xs.set i v) := by
  simp [arr, List.map_set]
theorem arr_get (k : IntKind) (xs : List Int) (i : Nat) (_h : i < xs.length) : (arr k xs)[i]? = some (.int k (xs.getD i 0)) := by
  simp [arr, _h, List.getD_eq_getElem?_getD]
theorem arr_size (k : IntKind) (xs : List Int) : (arr k xs).size = xs.length := by simp [arr]
theorem arr_one (k : IntKind) (xs : List Int) : (arr k xs).all (·.oneCell') = true := by
  simp [arr, Value.oneCell']
def zs (n : Nat) : List Int := List.replicate n 0
def rr (x n : Int) : Int := Go.bits .or .u32 (shr .u32 x n) (shl .u32 x (wrap64 (32 - n)))
theorem right_f (x n : Int) (h0 : 0 ≤ n) (h1 : n ≤ 32) : digest_right.f x n = some (rr x n) := by
  unfold digest_right.f rr
  have e : wrap64 (32 - n) = 32 - n := by unfold wrap64; omega
  rw [if_pos h0, if_pos (by omega)]
theorem right_q (x n : Int) (h0 : 0 ≤ n) (h1 : n ≤ 32) (w : World) (k : Nat) : Calls Tryd.prog 86 #[.int .u32 x, .int .i64 n] (w.drewN k) fun e w'' => e = .returned (.int .u32 (rr x n)) ∧ ∃ m, w'' = w.drewN m := by
  refine Calls.quiet_of ((digest_right.calls x n _ _ (right_f x n h0 h1)).mono ?_)
  rintro e w' ⟨rfl, d⟩
  exact ⟨rfl, d.out⟩
def byteAt (s : ByteArray) (k : Nat) : Int := ((s.data.toList.getD k 0).toNat : Int)
def acc (b : ByteArray) (i : Nat) : Nat → Int
  | 0 => 0
  | j + 1 => Go.bits .or .u32 (acc b i j * 256 % 4294967296) (byteAt b (4 * i + j))
def sg0 (x : Int) : Int := Go.bits .xor .u32 (Go.bits .xor .u32 (rr x 7) (rr x 18)) (x / 8)
def sg1 (x : Int) : Int := Go.bits .xor .u32 (Go.bits .xor .u32 (rr x 17) (rr x 19)) (x / 1024)
def wAt (b : ByteArray) (xs : List Int) (i : Nat) : Int :=
  if i < 16 then acc b i 4 else (xs.getD (i - 16) 0 + xs.getD (i - 7) 0 + sg0 (xs.getD (i - 15) 0) + sg1 (xs.getD (i - 2) 0)) % 4294967296
def wl (b : ByteArray) : Nat → List Int
  | 0 => zs 64
  | i + 1 => (wl b i).set i (wAt b (wl b i) i)
theorem wl_len (b : ByteArray) (i : Nat) : (wl b i).length = 64 := by
  induction i with
  | zero => exact List.length_replicate
  | succ i ih => rw [wl, List.length_set, ih]
theorem wl_zero (b : ByteArray) (i : Nat) : ∀ j, i ≤ j → j < 64 → (wl b i)[j]? = some 0 := by
  induction i with
  | zero => intro j _ hj; rw [wl, zs, List.getElem?_replicate, if_pos hj]
  | succ i ih => intro j hij hj; rw [wl, List.getElem?_set, if_neg (by omega)]; exact ih j (by omega) hj
theorem wl_set_zero (b : ByteArray) (i : Nat) (h : i < 64) : (wl b i).set i 0 = wl b i := by
  have := wl_zero b i i (Nat.le_refl _) h
  apply List.ext_getElem?
  intro j
  rw [List.getElem?_set]
  split
  · rename_i e; subst e; rw [wl_len, if_pos h, this]
  · rfl
theorem byteAt_rng (s : ByteArray) (k : Nat) : 0 ≤ byteAt s k ∧ byteAt s k ≤ 255 := by
  unfold byteAt
  have := (s.data.toList.getD k 0).toNat_lt
  omega
theorem byteAt_eq (s : ByteArray) (k : Nat) (h : k < s.size) : byteAt s k = ((s[k]'h).toNat : Int) := by
  have h' : k < s.data.size := h
  have e : s.data.toList.getD k 0 = s[k]'h := by
    rw [List.getD_eq_getElem?_getD, List.getElem?_eq_getElem (by simpa using h')]; rfl
  unfold byteAt
  rw [e]
theorem index_at (b : ByteArray) (n : Int) (k : Nat) (hn : n = (k : Int)) (hk : k < b.size) (W : World) : (Instr.index 9 (.string b) (.int .i64 n)).run Tryd.prog W = .ok (.int .u8 (byteAt b k)) W := by
  subst hn
  rw [run_index_string W 9 b .i64 (k : Int) Tryd.underlying9, dif_pos (by omega), byteAt_eq b k hk]
  rfl
structure V8 where
  a : Int
  b : Int
  c : Int
  d : Int
  e : Int
  f : Int
  g : Int
  h : Int
def V8.l (x : V8) : List Int := [x.a, x.b, x.c, x.d, x.e, x.f, x.g, x.h]
def tt (e f g h k w : Int) : Int :=
  ((h + Go.bits .xor .u32 (Go.bits .xor .u32 (rr e 6) (rr e 11)) (rr e 25) + Go.bits .xor .u32 g (Go.bits .and .u32 e (Go.bits .xor .u32 f g)) + k) % 4294967296 + w) % 4294967296
def uu (a b c : Int) : Int :=
  (Go.bits .xor .u32 (Go.bits .xor .u32 (rr a 2) (rr a 13)) (rr a 22) + Go.bits .or .u32 (Go.bits .and .u32 a b) (Go.bits .and .u32 c (Go.bits .or .u32 a b))) % 4294967296
def stp (x : V8) (k w : Int) : V8 :=
  ⟨(tt x.e x.f x.g x.h k w + uu x.a x.b x.c) % 4294967296, x.a, x.b, x.c, (x.d + tt x.e x.f x.g x.h k w) % 4294967296, x.e, x.f, x.g⟩
def cv (x : V8) (K W : List Int) : Nat → V8
  | 0 => x
  | i + 1 => stp (cv x K W i) (K.getD i 0) (W.getD i 0)
def ad (s v : List Int) : Nat → List Int
  | 0 => s
  | i + 1 => (ad s v i).set i (((ad s v i).getD i 0 + v.getD i 0) % 4294967296)
theorem ad_len (s v : List Int) (i : Nat) : (ad s v i).length = s.length := by
  induction i with
  | zero => rfl
  | succ i ih => rw [ad, List.length_set, ih]
def wlAll (b : ByteArray) : List Int := wl b 64
def blk (K : List Int) (x : V8) (b : ByteArray) : List Int := ad x.l (cv x K (wlAll b) 64).l 8
theorem zero64 (w : World) : (zeroValue 132).run Tryd.prog w = .ok (.agg (arr .u32 (zs 64))) w := by kernel_rfl
theorem zero8 (w : World) : (zeroValue 115).run Tryd.prog w = .ok (.agg (arr .u32 (zs 8))) w := by kernel_rfl
end Go.Proofs.YtpgfafpjfdbjmaaDoor
end
section
namespace Go.Proofs.YtpgfafpjfdbjmaaDoor
open Go.RowKit Q Go.Proofs.YtpgfafpjfdbjmaaDoorW.PrintWords Go.Proofs.YtpgfafpjfdbjmaaDoorW.PrintLast Go.Proofs.YtpgfafpjfdbjmaaDoorW.PrintMore
def KL : List Int := [1116352408, 1899447441, 3049323471, 3921009573, 961987163, 1508970993, 2453635748, 2870763221, 3624381080, 310598401, 607225278, 1426881987, 1925078388, 2162078206, 2614888103, 3248222580, 3835390401, 4022224774, 264347078, 604807628, 770255983, 1249150122, 1555081692, 1996064986, 2554220882, 2821834349, 2952996808, 3210313671, 3336571891, 3584528711, 113926993, 338241895, 666307205, 773529912, 1294757372, 1396182291, 1695183700, 1986661051, 2177026350, 2456956037, 2730485921, 2820302411, 3259730800, 3345764771, 3516065817, 3600352804, 4094571909, 275423344, 430227734, 506948616, 659060556, 883997877, 958139571, 1322822218, 1537002063, 1747873779, 1955562222, 2024104815, 2227730452, 2361852424, 2428436474, 2756734187, 3204031479, 3329325298]
def H0 : List Int := [1779033703, 3144134277, 1013904242, 2773480762, 1359893119, 2600822924, 528734635, 1541459225]
theorem setRow_new (w : World) (c c' : Array Value) (t : TypeId) : (w.alloc (.cells c t)).setRow w.heap.size c' = w.alloc (.cells c' t) := World.setRow_alloc_new w c c' t
theorem KL_len : KL.length = 64 := by decide
theorem H0_len : H0.length = 8 := by decide
theorem zs_len (n : Nat) : (zs n).length = n := List.length_replicate
theorem size8 : (Tryd.prog.info? 115).map (·.size) = some 8 := by kernel_rfl
theorem size64 : (Tryd.prog.info? 132).map (·.size) = some 64 := by kernel_rfl
set_option maxRecDepth 100000 in
set_option maxHeartbeats 200000 in
theorem begin_calls (w : World) : Calls Tryd.prog 72 #[] w fun e w' => e = .returned (.agg (arr .u32 H0)) ∧ Below w.heap.size w w' := by
  have hz := zero8
  have hB : Hid (Below w.heap.size w (w.alloc (.cells (arr .u32 H0) 115))) := Lib.hid ((Below.refl _ _).alloc (Nat.le_refl _) _)
  go_enter Tryd.func72, Tryd.ntmps72
  go_wp2_with (refine gate_ (.store 115 (.tmp 0) (.tmp 1)) rfl ?_; refine wpList_plain rfl (fun K hK => ?_); refine wp_store_row 115 (.tmp 0) (.tmp 1) rfl w.heap.size (arr .u32 H0) rfl rfl 115 (arr .u32 (zs 8)) (heap_alloc_new w _) (by rw [arr_size, H0_len]; exact size8) (by rw [arr_size, arr_size, H0_len, zs_len]) (arr_one _ _) (hK _ _ ?_); rw [setRow_new]; clear hK K)
  refine bodyPost_ret (results_cell_row rfl _ _ w.heap.size 115 (arr .u32 H0) (0, 0) _ rfl (heap_alloc_new w _) Tryd.underlying115 rfl (by rw [arr_size, H0_len]; exact size8)) rfl ⟨rfl, hB.out⟩
theorem build_as {P : Program} {ops : Array Oper} {rest : List Oper} {o : Oper} {a : Act} {w : World} {Q : Exit → Act → World → Prop} (t : TypeId) (c : Array Value) (N : Option Tmp) (hN : o.dst = N) (hg : o.guard = none) (parts : Array (Nat × Operand)) (ho : o.op = .build t parts)
    (hf : P.built t (parts.map fun (i, x) => (i, a.eval x)).toList = some c) (h : wpList P ops Q rest (a.put N (.agg c)) w) : wpList P ops Q (o :: rest) a w := by
  subst hN
  refine wpList_build hg t parts ho (by rw [hf]; rfl) ?_
  rw [hf]
  exact h
set_option maxRecDepth 100000 in
set_option maxHeartbeats 400000 in
theorem constants_calls (w : World) : Calls Tryd.prog 87 #[] w fun e w' => e = .returned (.agg (arr .u32 KL)) ∧ Below w.heap.size w w' := by
  have hz := zero64
  have hB : Hid (Below w.heap.size w (w.alloc (.cells (arr .u32 KL) 132))) := Lib.hid ((Below.refl _ _).alloc (Nat.le_refl _) _)
  go_enter Tryd.func87, Tryd.ntmps87
  go_wp2_with (first | (refine build_as 132 (arr .u32 KL) (some 1) rfl rfl _ rfl (by kernel_rfl) ?_; simp only [Act.put, List.setIfInBounds_toArray, List.set_cons_zero, List.set_cons_succ]) | (refine gate_ (.store 132 (.tmp 0) (.tmp 1)) rfl ?_; refine wpList_plain rfl (fun K hK => ?_); refine wp_store_row 132 (.tmp 0) (.tmp 1) rfl w.heap.size (arr .u32 KL) rfl rfl 132 (arr .u32 (zs 64)) (heap_alloc_new w _) (by rw [arr_size, KL_len]; exact size64) (by rw [arr_size, arr_size, KL_len, zs_len]) (arr_one _ _) (hK _ _ ?_); rw [setRow_new]; clear hK K))
  refine bodyPost_ret (results_cell_row rfl _ _ w.heap.size 132 (arr .u32 KL) (0, 0) _ rfl (heap_alloc_new w _) Tryd.underlying132 rfl (by rw [arr_size, KL_len]; exact size64)) rfl ⟨rfl, hB.out⟩
end Go.Proofs.YtpgfafpjfdbjmaaDoor
end
section
namespace Go.Proofs.YtpgfafpjfdbjmaaDoor
open Go.RowKit Q Go.Proofs.YtpgfafpjfdbjmaaDoorW.PrintWords Go.Proofs.YtpgfafpjfdbjmaaDoorW.PrintLast Go.Proofs.YtpgfafpjfdbjmaaDoorW.PrintMore
attribute [local go_sem] arr_set
def Row (w : World) (g : Nat) (T : TypeId) (xs : List Int) : Prop := w.heap[g]? = some (.cells (arr .u32 xs) T (0, 0))
theorem Row.cell {w : World} {g : Nat} {T : TypeId} {xs : List Int} (h : Row w g T xs) (i : Nat) (hi : i < xs.length) : w.cell? ⟨g, i, none⟩ = some (.int .u32 (xs.getD i 0)) := by
  rw [Lib.cell_of_heap h, arr_get _ _ _ hi]
theorem Row.frozen {w : World} {g : Nat} {T : TypeId} {xs : List Int} (h : Row w g T xs) (i : Nat) : w.frozen? ⟨g, i, none⟩ = false := Lib.frozen_of_heap h i
theorem Row.set {w : World} {g : Nat} {T : TypeId} {xs : List Int} (h : Row w g T xs) (i : Nat) (v : Int) : Row (w.setCell ⟨g, i, none⟩ (.int .u32 v)) g T (xs.set i v) := by
  have : w.heap[g]? = _ := h
  simp [Row, World.setCell, Array.getElem?_modify, this, arr_set]
theorem Row.other {w : World} {g g' : Nat} {T : TypeId} {xs : List Int} (h : Row w g T xs) (hne : g ≠ g') (i : Nat) (v : Value) : Row (w.setCell ⟨g', i, none⟩ v) g T xs :=
  (Below.heap_setCell _ _ _ _ (fun e => hne e)).trans h
theorem Row.alloc {w : World} {g : Nat} {T : TypeId} {xs : List Int} (h : Row w g T xs) (o : Obj) : Row (w.alloc o) g T xs :=
  (Lib.alloc_old w o g (Array.getElem?_eq_some_iff.1 h).1).trans h
theorem Row.lt {w : World} {g : Nat} {T : TypeId} {xs : List Int} (h : Row w g T xs) : g < w.heap.size := (Array.getElem?_eq_some_iff.1 h).1
theorem Row.drewN {w : World} {g : Nat} {T : TypeId} {xs : List Int} (h : Row w g T xs) (n : Nat) : Row (w.drewN n) g T xs := h
theorem Row.new (w : World) (T : TypeId) (xs : List Int) : Row (w.alloc (.cells (arr .u32 xs) T)) w.heap.size T xs := heap_alloc_new w _
theorem Row.keep {w w' : World} {g : Nat} {T : TypeId} {xs : List Int} (h : Row w g T xs) (hb : Below w.heap.size w w') : Row w' g T xs :=
  (hb.block g h.lt).trans h
theorem Row.put {w : World} {g : Nat} {T : TypeId} {xs : List Int} (h : Row w g T xs) (ys : List Int) : Row (w.setRow g (arr .u32 ys)) g T ys :=
  setRow_heap w g _ _ _ _ h
theorem Row.past {w : World} {g g' : Nat} {T : TypeId} {xs : List Int} (h : Row w g T xs) (hne : g ≠ g') (c : Array Value) : Row (w.setRow g' c) g T xs :=
  (setRow_other w g' g c hne).trans h
theorem below_setRow {B : Nat} {w w1 : World} (h : Below B w w1) {g : Nat} (hg : B ≤ g) (c : Array Value) : Below B w (w1.setRow g c) :=
  h.trans ⟨rfl, rfl, rfl, by simp [World.setRow], fun k hk => setRow_other w1 g k c (by omega)⟩
theorem below2 {w w1 w2 : World} {B : Nat} (a : Below B w w1) (hB : B ≤ w1.heap.size) (b : Below w1.heap.size w1 w2) : Below B w w2 := a.trans (b.mono hB)
theorem alloc_run {P : Program} (ev : Operand → Value) (T : TypeId) {c : Array Value} (W : World) (hz : (zeroValue T).run P W = .ok (.agg c) W) {o : Oper} (ho : o.op = .alloc T) :
    (execOp ev o).run P W = .ok (.value (.pointer (some ⟨W.heap.size, 0, none⟩))) (W.alloc (.cells c T)) := by
  unfold execOp
  rw [ho]
  go_simp
theorem load_run {P : Program} (ev : Operand → Value) (T : TypeId) (x : Operand) {xs : List Int} (g n : Nat) (e : TypeId) (W : World) (h : Row W g T xs) (hu : P.underlying T = some (.array n e)) (hi : (P.info? T).map (·.size) = some xs.length) (hx : ev x = .pointer (some ⟨g, 0, none⟩)) {o : Oper} (ho : o.op = .load T x) :
    (execOp ev o).run P W = .ok (.value (.agg (arr .u32 xs))) W := by
  unfold execOp
  simp only [ho, hx, Instr.loadAt, Instr.sureAddr, Sem.run_bind, Sem.run_pure, Result.andThen_ok, run_loadVar_row W g T T _ _ _ h hu rfl (by rw [arr_size]; exact hi)]
theorem store_run {P : Program} (ev : Operand → Value) (T : TypeId) (x y : Operand) {xs ys : List Int} (g : Nat) (W : World) (h : Row W g T xs) (hi : (P.info? T).map (·.size) = some ys.length) (hl : xs.length = ys.length) (hx : ev x = .pointer (some ⟨g, 0, none⟩)) (hy : ev y = .agg (arr .u32 ys)) {o : Oper} (ho : o.op = .store T x y) :
    (execOp ev o).run P W = .ok .skip (W.setRow g (arr .u32 ys)) := by
  unfold execOp
  simp only [ho, hx, hy, Instr.storeAt, Instr.sureAddr, Sem.run_bind, Sem.run_pure, Result.andThen_ok, run_storeVar_row W g T T (arr .u32 xs) (arr .u32 ys) h (by rw [arr_size .u32 ys]; exact hi) (by rw [arr_size .u32 xs, arr_size .u32 ys]; exact hl) (arr_one _ _)]
theorem copy_shift (w : World) (T : TypeId) (gb : Nat) (a b c d e f g h : Int) (hr : Row w gb T [a, b, c, d, e, f, g, h]) :
    (Builtin.copy_ #[92, 92] 3 #[.slice (some ⟨gb, 1, none⟩) 7 7, .slice (some ⟨gb, 0, none⟩) 7 8]).run Tryd.prog w = .ok (.int .i64 7) (w.setRow gb (arr .u32 [a, a, b, c, d, e, f, g])) := by
  have := run_copy_row (P := Tryd.prog) w 92 92 3 91 gb 1 7 7 ⟨gb, 0, none⟩ 7 8 (arr .u32 [a, b, c, d, e, f, g, h]) T [.int .u32 a, .int .u32 b, .int .u32 c, .int .u32 d, .int .u32 e, .int .u32 f, .int .u32 g]
    Tryd.underlying92 (by kernel_rfl) hr rfl (fun j v hv => by
      have hadd : (⟨gb, 0, none⟩ : Addr).add j = ⟨gb, j, none⟩ := by unfold Addr.add; split <;> simp_all
      rw [hadd, Lib.cell_of_heap hr]
      match j, hv with
      | 0, hv => exact hv
      | 1, hv => exact hv
      | 2, hv => exact hv
      | 3, hv => exact hv
      | 4, hv => exact hv
      | 5, hv => exact hv
      | 6, hv => exact hv
      | k + 7, hv => simp at hv) (by simp [arr]) (by intro v hv; simp at hv; rcases hv with rfl | rfl | rfl | rfl | rfl | rfl | rfl <;> rfl)
  exact this
theorem blk_eq (K : List Int) (x xv : V8) (b : ByteArray) (WL : List Int) (i j : Nat) (hi : i = 64) (hW : wl b i = WL) (hj : j = 64) (hx : cv x K WL j = xv) : ad x.l xv.l 8 = blk K x b := by
  subst hi hj hW hx
  rfl
set_option maxRecDepth 100000 in
set_option maxHeartbeats 8000000 in
theorem block_calls (s0 s1 s2 s3 s4 s5 s6 s7 : Int) (b : ByteArray) (hb : b.size = 64) (R : List Int) (hres : Hid (blk KL ⟨s0, s1, s2, s3, s4, s5, s6, s7⟩ b = R)) (w : World) :
    Calls Tryd.prog 73 #[.agg (arr .u32 [s0, s1, s2, s3, s4, s5, s6, s7]), .string b] w fun e w' => e = .returned (.agg (arr .u32 R)) ∧ Below w.heap.size w w' := by
  have hz := zero64
  have hz8 := zero8
  go_enter Tryd.func73, Tryd.ntmps73
  go_wp2_with fail
  go_loopw [6, 18] (fun _ n wr => ∃ i : Nat, i ≤ 64 ∧ n = .int .i64 i ∧ Aside0 (Row wr w.heap.size 115 [s0, s1, s2, s3, s4, s5, s6, s7]) ∧ Aside0 (Row wr (w.heap.size + 1) 115 (zs 8)) ∧ Aside0 (Row wr (w.heap.size + 1 + 1) 132 (wl b i)) ∧ Aside0 (Below w.heap.size w wr)) (fun _ n _ => 64 - (intOf n).toNat)
  case atStart =>
    refine ⟨0, by omega, rfl, ⟨((Row.new w _ _).alloc _).alloc _⟩, ⟨?_⟩, ⟨?_⟩, ⟨(((Below.refl _ _).alloc (Nat.le_refl _) _).alloc (by simp) _).alloc (by simp; omega) _⟩⟩
    · have := (Row.new (w.alloc (.cells (arr .u32 [s0, s1, s2, s3, s4, s5, s6, s7]) 115)) 115 (zs 8)).alloc (.cells (arr .u32 (zs 64)) 132)
      simpa using this
    · have := Row.new ((w.alloc (.cells (arr .u32 [s0, s1, s2, s3, s4, s5, s6, s7]) 115)).alloc (.cells (arr .u32 (zs 8)) 115)) 132 (zs 64)
      simp only [World.size_alloc] at this
      exact this
  case round =>
    obtain ⟨i, hi, rfl, HS, HR, HW, HBl⟩ := hrel
    by_cases hlt : i < 64
    · by_cases h16 : i < 16
      · go_wp2_with fail
        go_loopw [7, 23] (fun _ n wr => ∃ j : Nat, j ≤ 4 ∧ n = .int .i64 j ∧ Aside0 (Row wr w.heap.size 115 [s0, s1, s2, s3, s4, s5, s6, s7]) ∧ Aside0 (Row wr (w.heap.size + 1) 115 (zs 8)) ∧ Aside0 (Row wr (w.heap.size + 1 + 1) 132 ((wl b i).set i (acc b i j))) ∧ Aside0 (Below w.heap.size w wr)) (fun _ n _ => 4 - (intOf n).toNat)
        case atStart => exact ⟨0, by omega, rfl, HS, HR, ⟨by rw [acc, wl_set_zero b i hlt]; exact HW.out⟩, HBl⟩
        case round =>
          clear HS HR HW HBl
          obtain ⟨j, hj, rfl, HS, HR, HW, HBl⟩ := hrel
          by_cases hj4 : j < 4
          · have hc := HW.out.cell i (by rw [List.length_set, wl_len]; exact hlt)
            have hf := HW.out.frozen i
            have hv : ((wl b i).set i (acc b i j)).getD i 0 = acc b i j := by
              rw [List.getD_eq_getElem?_getD, List.getElem?_set, if_pos rfl, wl_len, if_pos hlt]; rfl
            rw [hv] at hc
            clear hv
            have hidx : (4 * (i : Int) + (j : Int)).toNat = 4 * i + j := by omega
            have hw1 : IntKind.i64.wrap (4 * (i : Int)) = 4 * (i : Int) := IntWalk.i64_in _ (by omega)
            have hw2 : IntKind.i64.wrap (4 * (i : Int) + (j : Int)) = 4 * (i : Int) + (j : Int) := IntWalk.i64_in _ (by omega)
            have hix := index_at b (4 * (i : Int) + (j : Int)) (4 * i + j) (by omega) (by omega)
            have hbr := byteAt_rng b (4 * i + j)
            have hbm : byteAt b (4 * i + j) % 4294967296 = byteAt b (4 * i + j) := Int.emod_eq_of_lt (by omega) (by omega)
            go_wp2_with fail
            refine region_quiet_tail 14 (by kernel_rfl) (by kernel_rfl) ?_
            simp only [List.take_succ_cons, List.take_zero, List.drop_succ_cons, List.drop_zero]
            repeat (go_big_quiet_step (fail))
            refine wpQuiet_nil ?_
            intro _ hw'
            obtain ⟨nq, rfl⟩ := hw'
            have HS := Aside0.mk (HS.out.drewN nq)
            have HR := Aside0.mk (HR.out.drewN nq)
            have HBl := Aside0.mk (pw_below_drewN HBl.out nq)
            have hW := HW.out.drewN nq
            have hf : (wr.drewN nq).frozen? ⟨w.heap.size + 1 + 1, i, none⟩ = false := hW.frozen i
            have hc : (wr.drewN nq).cell? ⟨w.heap.size + 1 + 1, i, none⟩ = some (.int .u32 (acc b i j)) := hc
            have HW := Aside0.mk hW
            clear hW
            generalize wr.drewN nq = wr at *
            go_wp2
            go_roundw
            case rel =>
              refine ⟨j + 1, by omega, by go_num, ⟨HS.out.other (by omega) _ _⟩, ⟨HR.out.other (by omega) _ _⟩, ⟨?_⟩, ⟨HBl.out.setCell (by simp; omega) _⟩⟩
              have := HW.out.set i (acc b i (j + 1))
              rw [List.set_set] at this
              exact this
            case measure => simp [intOf]; omega
          · obtain rfl : j = 4 := by omega
            go_wp2
            go_roundw
            case rel =>
              refine ⟨i + 1, by omega, by go_num, HS, HR, ⟨?_⟩, HBl⟩
              have := HW.out
              rw [wl, wAt, if_pos h16]
              exact this
            case measure => simp [intOf]; omega
      · obtain ⟨m16, h16'⟩ : ∃ m : Nat, m + 16 = i := ⟨i - 16, by omega⟩
        obtain ⟨m15, h15⟩ : ∃ m : Nat, m + 15 = i := ⟨i - 15, by omega⟩
        obtain ⟨m7, h7⟩ : ∃ m : Nat, m + 7 = i := ⟨i - 7, by omega⟩
        obtain ⟨m2, h2⟩ : ∃ m : Nat, m + 2 = i := ⟨i - 2, by omega⟩
        have w16 : IntKind.i64.wrap ((i : Int) - 16) = (m16 : Int) := by rw [IntWalk.i64_in _ (by omega)]; omega
        have w15 : IntKind.i64.wrap ((i : Int) - 15) = (m15 : Int) := by rw [IntWalk.i64_in _ (by omega)]; omega
        have w7 : IntKind.i64.wrap ((i : Int) - 7) = (m7 : Int) := by rw [IntWalk.i64_in _ (by omega)]; omega
        have w2 : IntKind.i64.wrap ((i : Int) - 2) = (m2 : Int) := by rw [IntWalk.i64_in _ (by omega)]; omega
        have hL := wl_len b i
        have c16 := HW.out.cell m16 (by omega)
        have c15 := HW.out.cell m15 (by omega)
        have c7 := HW.out.cell m7 (by omega)
        have c2 := HW.out.cell m2 (by omega)
        have hci := HW.out.cell i (by omega)
        have HE : Hid (wAt b (wl b i) i = ((wl b i).getD m16 0 + (wl b i).getD m7 0 + sg0 ((wl b i).getD m15 0) + sg1 ((wl b i).getD m2 0)) % 4294967296) := Lib.hid (by
          unfold wAt
          rw [if_neg h16, show i - 16 = m16 by omega, show i - 7 = m7 by omega, show i - 15 = m15 by omega, show i - 2 = m2 by omega])
        have g16 : (m16 : Int) < 64 := by omega
        have g15 : (m15 : Int) < 64 := by omega
        have g7 : (m7 : Int) < 64 := by omega
        have g2 : (m2 : Int) < 64 := by omega
        have gi : (i : Int) < 64 := by omega
        clear h16' h15 h7 h2 hL
        generalize (wl b i).getD m16 0 = x16 at c16 HE
        generalize (wl b i).getD m15 0 = x15 at c15 HE
        generalize (wl b i).getD m7 0 = x7 at c7 HE
        generalize (wl b i).getD m2 0 = x2 at c2 HE
        generalize (wl b i).getD i 0 = xi at hci
        go_wp2_with fail
        go_quiet (fail)
        have HS := Aside0.mk (HS.out.drewN nq)
        have HR := Aside0.mk (HR.out.drewN nq)
        have HBl := Aside0.mk (pw_below_drewN HBl.out nq)
        have HW := Aside0.mk (HW.out.drewN nq)
        have c16 : (wr.drewN nq).cell? _ = _ := c16
        have c7 : (wr.drewN nq).cell? _ = _ := c7
        have hci : (wr.drewN nq).cell? _ = _ := hci
        clear c15 c2
        generalize wr.drewN nq = wr at *
        go_wp2_with fail
        refine region_quiet_tail 29 (by kernel_rfl) (by kernel_rfl) ?_
        simp only [List.take_succ_cons, List.take_zero, List.drop_succ_cons, List.drop_zero]
        repeat (go_big_quiet_step (exact right_q _ _ (by decide) (by decide) _ _))
        refine wpQuiet_nil ?_
        intro _ hw'
        obtain ⟨nq, rfl⟩ := hw'
        have HS := Aside0.mk (HS.out.drewN nq)
        have HR := Aside0.mk (HR.out.drewN nq)
        have HBl := Aside0.mk (pw_below_drewN HBl.out nq)
        have hW := HW.out.drewN nq
        have hf : (wr.drewN nq).frozen? ⟨w.heap.size + 1 + 1, i, none⟩ = false := hW.frozen i
        have hci : (wr.drewN nq).cell? _ = _ := hci
        have HW := Aside0.mk hW
        clear hW c16 c7
        generalize wr.drewN nq = wr at *
        go_wp2
        go_roundw
        case rel =>
          refine ⟨i + 1, by omega, by go_num, ⟨HS.out.other (by omega) _ _⟩, ⟨HR.out.other (by omega) _ _⟩, ⟨?_⟩, ⟨HBl.out.setCell (by simp; omega) _⟩⟩
          have := HW.out.set i (wAt b (wl b i) i)
          rw [HE.out] at this
          rw [wl, HE.out]
          exact this
        case measure => simp [intOf]; omega
    · have hge : 64 ≤ i := by omega
      have hi64 : Hid (i = 64) := Lib.hid (by omega)
      clear hi hlt
      have hWL := wl_len b i
      generalize hwle : wl b i = WL at HW hWL
      have hWLe : Hid (wl b i = WL) := Lib.hid hwle
      clear hwle
      go_wp2_with fail
      refine start_ (n := 6) (S := fun w' => Row w' w.heap.size 115 [s0, s1, s2, s3, s4, s5, s6, s7]) (ds := []) #[false, false, false, false, false, false] (by kernel_rfl) rfl rfl HS.out (fun hHeld => ?_)
      have HS := Aside0.mk (HS.out.drewN 1)
      have HR := Aside0.mk (HR.out.drewN 1)
      have HW := Aside0.mk (HW.out.drewN 1)
      have HBl := Aside0.mk (pw_below_drewN HBl.out 1)
      change wpAnyLast _ _ _ _ _ _ _ _ _ (wr.drewN 1)
      change Row (wr.drewN 1) _ _ _ at hHeld
      generalize wr.drewN 1 = wr at *
      refine take_ (i := 0) (N := some 79) (v := .agg (arr .u32 [s0, s1, s2, s3, s4, s5, s6, s7])) (a' := ?_) #[true, false, false, false, false, false] rfl rfl (by kernel_rfl) (fun _ _ _ h => h) (Or.inl ⟨by rfl, fun w' hw' => load_run _ 115 (.tmp 2) w.heap.size _ _ w' hw' Tryd.underlying115 size8 rfl rfl⟩) hHeld ?_ ?_
      rotate_left
      · simp only [Act.put, List.setIfInBounds_toArray, List.set_cons_zero, List.set_cons_succ]
        rfl
      clear hHeld
      refine join_ 2 #[true, true, true, true, false, false] (fun s : Nat × Nat => [(80, .agg (arr .u32 KL)), (10, .pointer (some ⟨s.1, 0, none⟩)), (11, .pointer (some ⟨s.2, 0, none⟩))]) (fun s w' => Row w' w.heap.size 115 [s0, s1, s2, s3, s4, s5, s6, s7] ∧ Row w' (w.heap.size + 1) 115 (zs 8) ∧ Row w' (w.heap.size + 1 + 1) 132 WL ∧ Row w' s.1 115 (zs 8) ∧ Row w' s.2 132 (zs 64) ∧ s.1 ≠ s.2 ∧ w.heap.size + 1 + 1 < s.1 ∧ w.heap.size + 1 + 1 < s.2 ∧ Below w.heap.size w w') ?_ (fun hcont => ?_)
      · rintro ⟨g10, g11⟩ wr ⟨hs, hr, hw, h10, h11, hne, hl10, hl11, hbl⟩
        refine norm_ (a' := ?_) ?_ ?_
        rotate_left
        · simp only [putAll, Act.put, List.setIfInBounds_toArray, List.set_cons_zero, List.set_cons_succ]
          rfl
        refine one_ (i := 4) (N := none) #[true, true, true, true, true, false] rfl rfl (by kernel_rfl) (by decide) (fun K hK => ?_)
        refine skip_ (by rfl) rfl (store_run _ 115 (.tmp 10) (.tmp 79) g10 _ h10 (ys := [s0, s1, s2, s3, s4, s5, s6, s7]) size8 rfl rfl rfl rfl) ?_
        refine hK.out _ _ (hs.past (by omega) _) (fun _ => ?_)
        clear hK K
        refine one_ (i := 5) (N := none) #[true, true, true, true, true, true] rfl rfl (by kernel_rfl) (by decide) (fun K hK => ?_)
        refine skip_ (by rfl) rfl (store_run _ 132 (.tmp 11) (.tmp 80) g11 _ (h11.past (by omega) _) (ys := KL) (by rw [KL_len]; exact size64) (by rw [KL_len, zs_len]) rfl rfl rfl) ?_
        refine hK.out _ _ ((hs.past (by omega) _).past (by omega) _) (fun _ => ?_)
        clear hK K
        refine done_ (by kernel_rfl) ?_
        have HS := Aside0.mk ((hs.past (show w.heap.size ≠ g10 by omega) (arr .u32 [s0, s1, s2, s3, s4, s5, s6, s7])).past (show w.heap.size ≠ g11 by omega) (arr .u32 KL))
        have HR := Aside0.mk ((hr.past (show w.heap.size + 1 ≠ g10 by omega) (arr .u32 [s0, s1, s2, s3, s4, s5, s6, s7])).past (show w.heap.size + 1 ≠ g11 by omega) (arr .u32 KL))
        have HW := Aside0.mk ((hw.past (show w.heap.size + 1 + 1 ≠ g10 by omega) (arr .u32 [s0, s1, s2, s3, s4, s5, s6, s7])).past (show w.heap.size + 1 + 1 ≠ g11 by omega) (arr .u32 KL))
        have HV := Aside0.mk ((h10.put [s0, s1, s2, s3, s4, s5, s6, s7]).past hne (arr .u32 KL))
        have HK := Aside0.mk ((h11.past (Ne.symm hne) (arr .u32 [s0, s1, s2, s3, s4, s5, s6, s7])).put KL)
        have HBl := Aside0.mk (below_setRow (below_setRow hbl (show w.heap.size ≤ g10 by omega) (arr .u32 [s0, s1, s2, s3, s4, s5, s6, s7])) (show w.heap.size ≤ g11 by omega) (arr .u32 KL))
        clear hs hr hw h10 h11 hbl
        generalize (wr.setRow g10 (arr .u32 [s0, s1, s2, s3, s4, s5, s6, s7])).setRow g11 (arr .u32 KL) = wr at *
        go_wp2_with fail
        go_loopw [12, 81] (fun _ n wr => ∃ i : Nat, i ≤ 64 ∧ n = .int .i64 i ∧ Aside0 (Row wr w.heap.size 115 [s0, s1, s2, s3, s4, s5, s6, s7]) ∧ Aside0 (Row wr (w.heap.size + 1) 115 (zs 8)) ∧ Aside0 (Row wr (w.heap.size + 1 + 1) 132 WL) ∧ Aside0 (Row wr g10 115 (cv ⟨s0, s1, s2, s3, s4, s5, s6, s7⟩ KL WL i).l) ∧ Aside0 (Row wr g11 132 KL) ∧ Aside0 (Below w.heap.size w wr)) (fun _ n _ => 64 - (intOf n).toNat)
        case atStart => exact ⟨0, by omega, rfl, HS, HR, HW, HV, HK, HBl⟩
        case round =>
          clear HS HR HW HV HK HBl
          obtain ⟨i, hi, rfl, HS, HR, HW, HV, HK, HBl⟩ := hrel
          by_cases hlt : i < 64
          · have hR : Hid (stp (cv ⟨s0, s1, s2, s3, s4, s5, s6, s7⟩ KL WL i) (KL.getD i 0) (WL.getD i 0) = cv ⟨s0, s1, s2, s3, s4, s5, s6, s7⟩ KL WL (i + 1)) := Lib.hid rfl
            have ck := HK.out.cell i (by rw [KL_len]; exact hlt)
            have cw := HW.out.cell i (by rw [hWL]; exact hlt)
            generalize KL.getD i 0 = kk at ck hR
            generalize WL.getD i 0 = ww at cw hR
            generalize cv ⟨s0, s1, s2, s3, s4, s5, s6, s7⟩ KL WL i = x at HV hR
            obtain ⟨a, b', c, d, e, f, g, h⟩ := x
            have c0 : wr.cell? ⟨g10, 0, none⟩ = some (.int .u32 a) := HV.out.cell 0 (by simp [V8.l])
            have c1 : wr.cell? ⟨g10, 1, none⟩ = some (.int .u32 b') := HV.out.cell 1 (by simp [V8.l])
            have c2 : wr.cell? ⟨g10, 2, none⟩ = some (.int .u32 c) := HV.out.cell 2 (by simp [V8.l])
            have c3 : wr.cell? ⟨g10, 3, none⟩ = some (.int .u32 d) := HV.out.cell 3 (by simp [V8.l])
            have c4 : wr.cell? ⟨g10, 4, none⟩ = some (.int .u32 e) := HV.out.cell 4 (by simp [V8.l])
            have c5 : wr.cell? ⟨g10, 5, none⟩ = some (.int .u32 f) := HV.out.cell 5 (by simp [V8.l])
            have c6 : wr.cell? ⟨g10, 6, none⟩ = some (.int .u32 g) := HV.out.cell 6 (by simp [V8.l])
            have c7 : wr.cell? ⟨g10, 7, none⟩ = some (.int .u32 h) := HV.out.cell 7 (by simp [V8.l])
            go_wp2_with fail
            go_quiet (fail)
            have HS := Aside0.mk (HS.out.drewN nq)
            have HR := Aside0.mk (HR.out.drewN nq)
            have HW := Aside0.mk (HW.out.drewN nq)
            have HV := Aside0.mk (HV.out.drewN nq)
            have HK := Aside0.mk (HK.out.drewN nq)
            have HBl := Aside0.mk (pw_below_drewN HBl.out nq)
            have c0 : (wr.drewN nq).cell? _ = _ := c0
            have c1 : (wr.drewN nq).cell? _ = _ := c1
            have c2 : (wr.drewN nq).cell? _ = _ := c2
            have c3 : (wr.drewN nq).cell? _ = _ := c3
            have c4 : (wr.drewN nq).cell? _ = _ := c4
            have c5 : (wr.drewN nq).cell? _ = _ := c5
            have c6 : (wr.drewN nq).cell? _ = _ := c6
            have c7 : (wr.drewN nq).cell? _ = _ := c7
            have ck : (wr.drewN nq).cell? _ = _ := ck
            have cw : (wr.drewN nq).cell? _ = _ := cw
            generalize wr.drewN nq = wr at *
            go_wp2_with fail
            go_quiet (exact right_q _ _ (by decide) (by decide) _ _)
            have HS := Aside0.mk (HS.out.drewN nq)
            have HR := Aside0.mk (HR.out.drewN nq)
            have HW := Aside0.mk (HW.out.drewN nq)
            have HV := Aside0.mk (HV.out.drewN nq)
            have HK := Aside0.mk (HK.out.drewN nq)
            have HBl := Aside0.mk (pw_below_drewN HBl.out nq)
            have c0 : (wr.drewN nq).cell? _ = _ := c0
            have c1 : (wr.drewN nq).cell? _ = _ := c1
            have c2 : (wr.drewN nq).cell? _ = _ := c2
            have c3 : (wr.drewN nq).cell? _ = _ := c3
            have c4 : (wr.drewN nq).cell? _ = _ := c4
            have c5 : (wr.drewN nq).cell? _ = _ := c5
            have c6 : (wr.drewN nq).cell? _ = _ := c6
            have c7 : (wr.drewN nq).cell? _ = _ := c7
            generalize wr.drewN nq = wr at *
            rw [show ((h + Go.bits .xor .u32 (Go.bits .xor .u32 (rr e 6) (rr e 11)) (rr e 25) + Go.bits .xor .u32 g (Go.bits .and .u32 e (Go.bits .xor .u32 f g)) + kk) % 4294967296 + ww) % 4294967296 = tt e f g h kk ww from rfl]
            have HT : Hid (stp ⟨a, b', c, d, e, f, g, h⟩ kk ww = ⟨(tt e f g h kk ww + uu a b' c) % 4294967296, a, b', c, (d + tt e f g h kk ww) % 4294967296, e, f, g⟩) := Lib.hid rfl
            generalize tt e f g h kk ww = t at *
            go_wp2_with fail
            go_quiet (exact right_q _ _ (by decide) (by decide) _ _)
            have HS := Aside0.mk (HS.out.drewN nq)
            have HR := Aside0.mk (HR.out.drewN nq)
            have HW := Aside0.mk (HW.out.drewN nq)
            have HV := Aside0.mk (HV.out.drewN nq)
            have HK := Aside0.mk (HK.out.drewN nq)
            have HBl := Aside0.mk (pw_below_drewN HBl.out nq)
            have c0 : (wr.drewN nq).cell? _ = _ := c0
            have c1 : (wr.drewN nq).cell? _ = _ := c1
            have c2 : (wr.drewN nq).cell? _ = _ := c2
            have c3 : (wr.drewN nq).cell? _ = _ := c3
            have c4 : (wr.drewN nq).cell? _ = _ := c4
            have c5 : (wr.drewN nq).cell? _ = _ := c5
            have c6 : (wr.drewN nq).cell? _ = _ := c6
            have c7 : (wr.drewN nq).cell? _ = _ := c7
            generalize wr.drewN nq = wr at *
            rw [show (Go.bits .xor .u32 (Go.bits .xor .u32 (rr a 2) (rr a 13)) (rr a 22) + Go.bits .or .u32 (Go.bits .and .u32 a b') (Go.bits .and .u32 c (Go.bits .or .u32 a b'))) % 4294967296 = uu a b' c from rfl]
            generalize uu a b' c = u at *
            have f0 := HV.out.frozen 0
            have f1 := HV.out.frozen 1
            have f2 := HV.out.frozen 2
            have f3 := HV.out.frozen 3
            have f4 := HV.out.frozen 4
            have f5 := HV.out.frozen 5
            have f6 := HV.out.frozen 6
            have f7 := HV.out.frozen 7
            go_wp2_with fail
            refine region_quiet_tail 2 (by kernel_rfl) (by kernel_rfl) ?_
            simp only [List.take_succ_cons, List.take_zero, List.drop_succ_cons, List.drop_zero]
            repeat (go_big_quiet_step (fail))
            refine wpQuiet_nil ?_
            intro _ hw'
            obtain ⟨nq, rfl⟩ := hw'
            have f0 : (wr.drewN nq).frozen? _ = false := f0
            have f1 : (wr.drewN nq).frozen? _ = false := f1
            have f2 : (wr.drewN nq).frozen? _ = false := f2
            have f3 : (wr.drewN nq).frozen? _ = false := f3
            have f4 : (wr.drewN nq).frozen? _ = false := f4
            have f5 : (wr.drewN nq).frozen? _ = false := f5
            have f6 : (wr.drewN nq).frozen? _ = false := f6
            have f7 : (wr.drewN nq).frozen? _ = false := f7
            have HS := Aside0.mk (HS.out.drewN nq)
            have HR := Aside0.mk (HR.out.drewN nq)
            have HW := Aside0.mk (HW.out.drewN nq)
            have HV := Aside0.mk (HV.out.drewN nq)
            have HK := Aside0.mk (HK.out.drewN nq)
            have HBl := Aside0.mk (pw_below_drewN HBl.out nq)
            have c0 : (wr.drewN nq).cell? _ = _ := c0
            have c1 : (wr.drewN nq).cell? _ = _ := c1
            have c2 : (wr.drewN nq).cell? _ = _ := c2
            have c3 : (wr.drewN nq).cell? _ = _ := c3
            have c4 : (wr.drewN nq).cell? _ = _ := c4
            have c5 : (wr.drewN nq).cell? _ = _ := c5
            have c6 : (wr.drewN nq).cell? _ = _ := c6
            have c7 : (wr.drewN nq).cell? _ = _ := c7
            generalize wr.drewN nq = wr at *
            have hcp := copy_shift wr _ g10 a b' c d e f g h HV.out
            have HS := Aside0.mk (HS.out.past (show w.heap.size ≠ g10 by omega) (arr .u32 [a, a, b', c, d, e, f, g]))
            have HR := Aside0.mk (HR.out.past (show w.heap.size + 1 ≠ g10 by omega) (arr .u32 [a, a, b', c, d, e, f, g]))
            have HW := Aside0.mk (HW.out.past (show w.heap.size + 1 + 1 ≠ g10 by omega) (arr .u32 [a, a, b', c, d, e, f, g]))
            have HK := Aside0.mk (HK.out.past (Ne.symm hne) (arr .u32 [a, a, b', c, d, e, f, g]))
            have HBl := Aside0.mk (below_setRow HBl.out (show w.heap.size ≤ g10 by omega) (arr .u32 [a, a, b', c, d, e, f, g]))
            have HV := Aside0.mk (HV.out.put [a, a, b', c, d, e, f, g])
            clear c0 c1 c2 c3 c4 c5 c6 c7 f0 f1 f2 f3 f4 f5 f6 f7
            generalize hw2 : wr.setRow g10 (arr .u32 [a, a, b', c, d, e, f, g]) = w2 at *
            clear hw2
            have c0 : w2.cell? ⟨g10, 0, none⟩ = some (.int .u32 a) := HV.out.cell 0 (by simp)
            have c4 : w2.cell? ⟨g10, 4, none⟩ = some (.int .u32 d) := HV.out.cell 4 (by simp)
            have f0 := HV.out.frozen 0
            have f4 := HV.out.frozen 4
            go_wp2
            go_roundw
            case rel =>
              refine ⟨i + 1, by omega, by go_num, ⟨(HS.out.other (by omega) _ _).other (by omega) _ _⟩, ⟨(HR.out.other (by omega) _ _).other (by omega) _ _⟩, ⟨(HW.out.other (by omega) _ _).other (by omega) _ _⟩, ⟨?_⟩, ⟨(HK.out.other (Ne.symm hne) _ _).other (Ne.symm hne) _ _⟩, ⟨(HBl.out.setCell (by simp; omega) _).setCell (by simp; omega) _⟩⟩
              rw [← hR.out]
              rw [HT.out]
              exact (HV.out.set 0 _).set 4 _
            case measure => simp [intOf]; omega
          · have hge2 : 64 ≤ i := by omega
            have hi642 : Hid (i = 64) := Lib.hid (by omega)
            generalize hxv0 : cv ⟨s0, s1, s2, s3, s4, s5, s6, s7⟩ KL WL i = xv at HV
            have hxv := Lib.hid hxv0
            clear hxv0
            have hvl : xv.l.length = 8 := rfl
            clear HK HW
            go_wp2_with fail
            go_loopw [17, 152] (fun _ n wr => ∃ i : Nat, i ≤ 8 ∧ n = .int .i64 i ∧ Aside0 (Row wr w.heap.size 115 (ad [s0, s1, s2, s3, s4, s5, s6, s7] xv.l i)) ∧ Aside0 (Row wr (w.heap.size + 1) 115 (zs 8)) ∧ Aside0 (Row wr g10 115 xv.l) ∧ Aside0 (Below w.heap.size w wr)) (fun _ n _ => 8 - (intOf n).toNat)
            case atStart => exact ⟨0, by omega, rfl, HS, HR, HV, HBl⟩
            case round =>
              clear HS HR HV HBl
              obtain ⟨i, hi, rfl, HS, HR, HV, HBl⟩ := hrel
              have hsl : (ad [s0, s1, s2, s3, s4, s5, s6, s7] xv.l i).length = 8 := ad_len _ _ _
              by_cases hlt : i < 8
              · have hA : Hid ((ad [s0, s1, s2, s3, s4, s5, s6, s7] xv.l i).set i (((ad [s0, s1, s2, s3, s4, s5, s6, s7] xv.l i).getD i 0 + xv.l.getD i 0) % 4294967296) = ad [s0, s1, s2, s3, s4, s5, s6, s7] xv.l (i + 1)) := Lib.hid rfl
                have c1 := HS.out.cell i (by omega)
                have c2 := HV.out.cell i (by omega)
                have f1 := HS.out.frozen i
                generalize ad [s0, s1, s2, s3, s4, s5, s6, s7] xv.l i = az at *
                generalize az.getD i 0 = p1 at c1 hA
                generalize xv.l.getD i 0 = p2 at c2 hA
                go_wp2_with fail
                refine region_quiet_tail 8 (by kernel_rfl) (by kernel_rfl) ?_
                simp only [List.take_succ_cons, List.take_zero, List.drop_succ_cons, List.drop_zero]
                repeat (go_big_quiet_step (fail))
                refine wpQuiet_nil ?_
                intro _ hw'
                obtain ⟨nq, rfl⟩ := hw'
                have HS := Aside0.mk (HS.out.drewN nq)
                have HR := Aside0.mk (HR.out.drewN nq)
                have HV := Aside0.mk (HV.out.drewN nq)
                have HBl := Aside0.mk (pw_below_drewN HBl.out nq)
                have c1 : (wr.drewN nq).cell? _ = _ := c1
                have f1 : (wr.drewN nq).frozen? _ = false := f1
                clear c2
                generalize wr.drewN nq = wr at *
                go_wp2
                go_roundw
                case rel =>
                  refine ⟨i + 1, by omega, by go_num, ⟨?_⟩, ⟨HR.out.other (by omega) _ _⟩, ⟨HV.out.other (by omega) _ _⟩, ⟨HBl.out.setCell (by simp) _⟩⟩
                  rw [← hA.out]
                  exact HS.out.set i _
                case measure => simp [intOf]; omega
              · obtain rfl : i = 8 := by omega
                have hE : Hid (ad [s0, s1, s2, s3, s4, s5, s6, s7] xv.l 8 = blk KL ⟨s0, s1, s2, s3, s4, s5, s6, s7⟩ b) := Lib.hid (blk_eq _ _ _ _ _ _ _ hi64.out hWLe.out hi642.out hxv.out)
                generalize ad [s0, s1, s2, s3, s4, s5, s6, s7] xv.l 8 = az at *
                go_wp2_with (first | (refine gate_ (.load 115 (.tmp 2)) rfl ?_; refine wpList_load_row rfl 115 (.tmp 2) rfl w.heap.size rfl _ (arr .u32 az) (0, 0) _ HS.out Tryd.underlying115 rfl (by rw [arr_size, hsl]; exact size8) ?_; simp only [Act.put, List.setIfInBounds_toArray, List.set_cons_zero, List.set_cons_succ]) | (refine gate_ (.store 115 (.tmp 4) (.tmp 164)) rfl ?_; refine wpList_plain rfl (fun K hK => ?_); refine wp_store_row 115 (.tmp 4) (.tmp 164) rfl (w.heap.size + 1) (arr .u32 az) rfl rfl 115 (arr .u32 (zs 8)) HR.out (by rw [arr_size, hsl]; exact size8) (by rw [arr_size, arr_size, hsl, zs_len]) (arr_one _ _) (hK _ _ ?_); clear hK K))
                refine bodyPost_ret (results_cell_row rfl _ _ (w.heap.size + 1) 115 (arr .u32 az) (0, 0) _ rfl (HR.out.put az) Tryd.underlying115 rfl (by rw [arr_size, hsl]; exact size8)) rfl ⟨by rw [hE.out, hres.out], below_setRow HBl.out (by omega) _⟩
      · refine three_ (i := 1) (Ni := some 80) (j := 2) (Nj := some 10) (k := 3) (Nk := some 11) #[true, true, false, false, false, false] #[true, false, true, false, false, false] #[true, false, false, true, false, false] rfl rfl rfl rfl rfl rfl (by kernel_rfl) (by decide) (by decide) (by decide) (fun K hK => ?_) (fun K hK => ?_) (fun K hK => ?_)
        · refine goes_ Tryd.func87 (by kernel_rfl) rfl #[] (by rfl) rfl rfl (by simp) ?_
          refine (constants_calls _).mono ?_
          rintro e wn ⟨rfl, hb⟩
          refine ⟨_, rfl, ?_⟩
          have HS := Aside0.mk (HS.out.keep hb)
          have HR := Aside0.mk (HR.out.keep hb)
          have HW := Aside0.mk (HW.out.keep hb)
          have HBl := Aside0.mk (below2 HBl.out HBl.out.size hb)
          clear hb
          refine hK.out _ _ HS.out (fun _ => ?_)
          clear hK K
          refine two_ (i := 2) (Ni := some 10) (j := 3) (Nj := some 11) #[true, true, true, false, false, false] #[true, true, false, true, false, false] rfl rfl rfl rfl (by kernel_rfl) (by decide) (by decide) (fun K hK => ?_) (fun K hK => ?_)
          · refine value_ (by rfl) rfl (alloc_run _ 115 _ (hz8 _) rfl) ?_
            have G10 := Aside0.mk (Row.new wn 115 (zs 8))
            have q10 : w.heap.size + 1 + 1 < wn.heap.size := HW.out.lt
            generalize hg10 : wn.heap.size = g10 at G10 q10 ⊢
            have HS := Aside0.mk (HS.out.alloc (.cells (arr .u32 (zs 8)) 115))
            have HR := Aside0.mk (HR.out.alloc (.cells (arr .u32 (zs 8)) 115))
            have HW := Aside0.mk (HW.out.alloc (.cells (arr .u32 (zs 8)) 115))
            have HBl := Aside0.mk (below_alloc HBl.out (.cells (arr .u32 (zs 8)) 115))
            generalize wn.alloc (.cells (arr .u32 (zs 8)) 115) = wn at *
            refine hK.out _ _ HS.out (fun _ => ?_)
            clear hK K
            refine one_ (i := 3) (N := some 11) #[true, true, true, true, false, false] rfl rfl (by kernel_rfl) (by decide) (fun K hK => ?_)
            refine value_ (by rfl) rfl (alloc_run _ 132 _ (hz _) rfl) ?_
            have G11 := Aside0.mk (Row.new wn 132 (zs 64))
            have q11 : w.heap.size + 1 + 1 < wn.heap.size := HW.out.lt
            have q1011 : g10 < wn.heap.size := G10.out.lt
            generalize hg11 : wn.heap.size = g11 at G11 q11 q1011 ⊢
            have HS := Aside0.mk (HS.out.alloc (.cells (arr .u32 (zs 64)) 132))
            have HR := Aside0.mk (HR.out.alloc (.cells (arr .u32 (zs 64)) 132))
            have HW := Aside0.mk (HW.out.alloc (.cells (arr .u32 (zs 64)) 132))
            have G10 := Aside0.mk (G10.out.alloc (.cells (arr .u32 (zs 64)) 132))
            have HBl := Aside0.mk (below_alloc HBl.out (.cells (arr .u32 (zs 64)) 132))
            generalize wn.alloc (.cells (arr .u32 (zs 64)) 132) = wn at *
            refine hK.out _ _ HS.out (fun _ => ?_)
            clear hK K
            exact norm_ rfl (hcont (g10, g11) _ ⟨HS.out, HR.out, HW.out, G10.out, G11.out, by omega, by omega, by omega, HBl.out⟩)
          · refine value_ (by rfl) rfl (alloc_run _ 132 _ (hz _) rfl) ?_
            have G11 := Aside0.mk (Row.new wn 132 (zs 64))
            have q11 : w.heap.size + 1 + 1 < wn.heap.size := HW.out.lt
            generalize hg11 : wn.heap.size = g11 at G11 q11 ⊢
            have HS := Aside0.mk (HS.out.alloc (.cells (arr .u32 (zs 64)) 132))
            have HR := Aside0.mk (HR.out.alloc (.cells (arr .u32 (zs 64)) 132))
            have HW := Aside0.mk (HW.out.alloc (.cells (arr .u32 (zs 64)) 132))
            have HBl := Aside0.mk (below_alloc HBl.out (.cells (arr .u32 (zs 64)) 132))
            generalize wn.alloc (.cells (arr .u32 (zs 64)) 132) = wn at *
            refine hK.out _ _ HS.out (fun _ => ?_)
            clear hK K
            refine one_ (i := 2) (N := some 10) #[true, true, true, true, false, false] rfl rfl (by kernel_rfl) (by decide) (fun K hK => ?_)
            refine value_ (by rfl) rfl (alloc_run _ 115 _ (hz8 _) rfl) ?_
            have G10 := Aside0.mk (Row.new wn 115 (zs 8))
            have q10 : w.heap.size + 1 + 1 < wn.heap.size := HW.out.lt
            have q1011 : g11 < wn.heap.size := G11.out.lt
            generalize hg10 : wn.heap.size = g10 at G10 q10 q1011 ⊢
            have HS := Aside0.mk (HS.out.alloc (.cells (arr .u32 (zs 8)) 115))
            have HR := Aside0.mk (HR.out.alloc (.cells (arr .u32 (zs 8)) 115))
            have HW := Aside0.mk (HW.out.alloc (.cells (arr .u32 (zs 8)) 115))
            have G11 := Aside0.mk (G11.out.alloc (.cells (arr .u32 (zs 8)) 115))
            have HBl := Aside0.mk (below_alloc HBl.out (.cells (arr .u32 (zs 8)) 115))
            generalize wn.alloc (.cells (arr .u32 (zs 8)) 115) = wn at *
            refine hK.out _ _ HS.out (fun _ => ?_)
            clear hK K
            exact norm_ rfl (hcont (g10, g11) _ ⟨HS.out, HR.out, HW.out, G10.out, G11.out, by omega, by omega, by omega, HBl.out⟩)
        · refine value_ (by rfl) rfl (alloc_run _ 115 _ (hz8 _) rfl) ?_
          have G10 := Aside0.mk (Row.new wr 115 (zs 8))
          have q10 : w.heap.size + 1 + 1 < wr.heap.size := HW.out.lt
          generalize hg10 : wr.heap.size = g10 at G10 q10 ⊢
          have HS := Aside0.mk (HS.out.alloc (.cells (arr .u32 (zs 8)) 115))
          have HR := Aside0.mk (HR.out.alloc (.cells (arr .u32 (zs 8)) 115))
          have HW := Aside0.mk (HW.out.alloc (.cells (arr .u32 (zs 8)) 115))
          have HBl := Aside0.mk (below_alloc HBl.out (.cells (arr .u32 (zs 8)) 115))
          generalize wr.alloc (.cells (arr .u32 (zs 8)) 115) = wn at *
          refine hK.out _ _ HS.out (fun _ => ?_)
          clear hK K
          refine two_ (i := 1) (Ni := some 80) (j := 3) (Nj := some 11) #[true, true, true, false, false, false] #[true, false, true, true, false, false] rfl rfl rfl rfl (by kernel_rfl) (by decide) (by decide) (fun K hK => ?_) (fun K hK => ?_)
          · refine goes_ Tryd.func87 (by kernel_rfl) rfl #[] (by rfl) rfl rfl (by simp) ?_
            refine (constants_calls _).mono ?_
            rintro e wn ⟨rfl, hb⟩
            refine ⟨_, rfl, ?_⟩
            have HS := Aside0.mk (HS.out.keep hb)
            have HR := Aside0.mk (HR.out.keep hb)
            have HW := Aside0.mk (HW.out.keep hb)
            have G10 := Aside0.mk (G10.out.keep hb)
            have HBl := Aside0.mk (below2 HBl.out HBl.out.size hb)
            clear hb
            refine hK.out _ _ HS.out (fun _ => ?_)
            clear hK K
            refine one_ (i := 3) (N := some 11) #[true, true, true, true, false, false] rfl rfl (by kernel_rfl) (by decide) (fun K hK => ?_)
            refine value_ (by rfl) rfl (alloc_run _ 132 _ (hz _) rfl) ?_
            have G11 := Aside0.mk (Row.new wn 132 (zs 64))
            have q11 : w.heap.size + 1 + 1 < wn.heap.size := HW.out.lt
            have q1011 : g10 < wn.heap.size := G10.out.lt
            generalize hg11 : wn.heap.size = g11 at G11 q11 q1011 ⊢
            have HS := Aside0.mk (HS.out.alloc (.cells (arr .u32 (zs 64)) 132))
            have HR := Aside0.mk (HR.out.alloc (.cells (arr .u32 (zs 64)) 132))
            have HW := Aside0.mk (HW.out.alloc (.cells (arr .u32 (zs 64)) 132))
            have G10 := Aside0.mk (G10.out.alloc (.cells (arr .u32 (zs 64)) 132))
            have HBl := Aside0.mk (below_alloc HBl.out (.cells (arr .u32 (zs 64)) 132))
            generalize wn.alloc (.cells (arr .u32 (zs 64)) 132) = wn at *
            refine hK.out _ _ HS.out (fun _ => ?_)
            clear hK K
            exact norm_ rfl (hcont (g10, g11) _ ⟨HS.out, HR.out, HW.out, G10.out, G11.out, by omega, by omega, by omega, HBl.out⟩)
          · refine value_ (by rfl) rfl (alloc_run _ 132 _ (hz _) rfl) ?_
            have G11 := Aside0.mk (Row.new wn 132 (zs 64))
            have q11 : w.heap.size + 1 + 1 < wn.heap.size := HW.out.lt
            have q1011 : g10 < wn.heap.size := G10.out.lt
            generalize hg11 : wn.heap.size = g11 at G11 q11 q1011 ⊢
            have HS := Aside0.mk (HS.out.alloc (.cells (arr .u32 (zs 64)) 132))
            have HR := Aside0.mk (HR.out.alloc (.cells (arr .u32 (zs 64)) 132))
            have HW := Aside0.mk (HW.out.alloc (.cells (arr .u32 (zs 64)) 132))
            have G10 := Aside0.mk (G10.out.alloc (.cells (arr .u32 (zs 64)) 132))
            have HBl := Aside0.mk (below_alloc HBl.out (.cells (arr .u32 (zs 64)) 132))
            generalize wn.alloc (.cells (arr .u32 (zs 64)) 132) = wn at *
            refine hK.out _ _ HS.out (fun _ => ?_)
            clear hK K
            refine one_ (i := 1) (N := some 80) #[true, true, true, true, false, false] rfl rfl (by kernel_rfl) (by decide) (fun K hK => ?_)
            refine goes_ Tryd.func87 (by kernel_rfl) rfl #[] (by rfl) rfl rfl (by simp) ?_
            refine (constants_calls _).mono ?_
            rintro e wn ⟨rfl, hb⟩
            refine ⟨_, rfl, ?_⟩
            have HS := Aside0.mk (HS.out.keep hb)
            have HR := Aside0.mk (HR.out.keep hb)
            have HW := Aside0.mk (HW.out.keep hb)
            have G10 := Aside0.mk (G10.out.keep hb)
            have G11 := Aside0.mk (G11.out.keep hb)
            have HBl := Aside0.mk (below2 HBl.out HBl.out.size hb)
            clear hb
            refine hK.out _ _ HS.out (fun _ => ?_)
            clear hK K
            exact norm_ rfl (hcont (g10, g11) _ ⟨HS.out, HR.out, HW.out, G10.out, G11.out, by omega, by omega, by omega, HBl.out⟩)
        · refine value_ (by rfl) rfl (alloc_run _ 132 _ (hz _) rfl) ?_
          have G11 := Aside0.mk (Row.new wr 132 (zs 64))
          have q11 : w.heap.size + 1 + 1 < wr.heap.size := HW.out.lt
          generalize hg11 : wr.heap.size = g11 at G11 q11 ⊢
          have HS := Aside0.mk (HS.out.alloc (.cells (arr .u32 (zs 64)) 132))
          have HR := Aside0.mk (HR.out.alloc (.cells (arr .u32 (zs 64)) 132))
          have HW := Aside0.mk (HW.out.alloc (.cells (arr .u32 (zs 64)) 132))
          have HBl := Aside0.mk (below_alloc HBl.out (.cells (arr .u32 (zs 64)) 132))
          generalize wr.alloc (.cells (arr .u32 (zs 64)) 132) = wn at *
          refine hK.out _ _ HS.out (fun _ => ?_)
          clear hK K
          refine two_ (i := 1) (Ni := some 80) (j := 2) (Nj := some 10) #[true, true, false, true, false, false] #[true, false, true, true, false, false] rfl rfl rfl rfl (by kernel_rfl) (by decide) (by decide) (fun K hK => ?_) (fun K hK => ?_)
          · refine goes_ Tryd.func87 (by kernel_rfl) rfl #[] (by rfl) rfl rfl (by simp) ?_
            refine (constants_calls _).mono ?_
            rintro e wn ⟨rfl, hb⟩
            refine ⟨_, rfl, ?_⟩
            have HS := Aside0.mk (HS.out.keep hb)
            have HR := Aside0.mk (HR.out.keep hb)
            have HW := Aside0.mk (HW.out.keep hb)
            have G11 := Aside0.mk (G11.out.keep hb)
            have HBl := Aside0.mk (below2 HBl.out HBl.out.size hb)
            clear hb
            refine hK.out _ _ HS.out (fun _ => ?_)
            clear hK K
            refine one_ (i := 2) (N := some 10) #[true, true, true, true, false, false] rfl rfl (by kernel_rfl) (by decide) (fun K hK => ?_)
            refine value_ (by rfl) rfl (alloc_run _ 115 _ (hz8 _) rfl) ?_
            have G10 := Aside0.mk (Row.new wn 115 (zs 8))
            have q10 : w.heap.size + 1 + 1 < wn.heap.size := HW.out.lt
            have q1011 : g11 < wn.heap.size := G11.out.lt
            generalize hg10 : wn.heap.size = g10 at G10 q10 q1011 ⊢
            have HS := Aside0.mk (HS.out.alloc (.cells (arr .u32 (zs 8)) 115))
            have HR := Aside0.mk (HR.out.alloc (.cells (arr .u32 (zs 8)) 115))
            have HW := Aside0.mk (HW.out.alloc (.cells (arr .u32 (zs 8)) 115))
            have G11 := Aside0.mk (G11.out.alloc (.cells (arr .u32 (zs 8)) 115))
            have HBl := Aside0.mk (below_alloc HBl.out (.cells (arr .u32 (zs 8)) 115))
            generalize wn.alloc (.cells (arr .u32 (zs 8)) 115) = wn at *
            refine hK.out _ _ HS.out (fun _ => ?_)
            clear hK K
            exact norm_ rfl (hcont (g10, g11) _ ⟨HS.out, HR.out, HW.out, G10.out, G11.out, by omega, by omega, by omega, HBl.out⟩)
          · refine value_ (by rfl) rfl (alloc_run _ 115 _ (hz8 _) rfl) ?_
            have G10 := Aside0.mk (Row.new wn 115 (zs 8))
            have q10 : w.heap.size + 1 + 1 < wn.heap.size := HW.out.lt
            have q1011 : g11 < wn.heap.size := G11.out.lt
            generalize hg10 : wn.heap.size = g10 at G10 q10 q1011 ⊢
            have HS := Aside0.mk (HS.out.alloc (.cells (arr .u32 (zs 8)) 115))
            have HR := Aside0.mk (HR.out.alloc (.cells (arr .u32 (zs 8)) 115))
            have HW := Aside0.mk (HW.out.alloc (.cells (arr .u32 (zs 8)) 115))
            have G11 := Aside0.mk (G11.out.alloc (.cells (arr .u32 (zs 8)) 115))
            have HBl := Aside0.mk (below_alloc HBl.out (.cells (arr .u32 (zs 8)) 115))
            generalize wn.alloc (.cells (arr .u32 (zs 8)) 115) = wn at *
            refine hK.out _ _ HS.out (fun _ => ?_)
            clear hK K
            refine one_ (i := 1) (N := some 80) #[true, true, true, true, false, false] rfl rfl (by kernel_rfl) (by decide) (fun K hK => ?_)
            refine goes_ Tryd.func87 (by kernel_rfl) rfl #[] (by rfl) rfl rfl (by simp) ?_
            refine (constants_calls _).mono ?_
            rintro e wn ⟨rfl, hb⟩
            refine ⟨_, rfl, ?_⟩
            have HS := Aside0.mk (HS.out.keep hb)
            have HR := Aside0.mk (HR.out.keep hb)
            have HW := Aside0.mk (HW.out.keep hb)
            have G10 := Aside0.mk (G10.out.keep hb)
            have G11 := Aside0.mk (G11.out.keep hb)
            have HBl := Aside0.mk (below2 HBl.out HBl.out.size hb)
            clear hb
            refine hK.out _ _ HS.out (fun _ => ?_)
            clear hK K
            exact norm_ rfl (hcont (g10, g11) _ ⟨HS.out, HR.out, HW.out, G10.out, G11.out, by omega, by omega, by omega, HBl.out⟩)
end Go.Proofs.YtpgfafpjfdbjmaaDoor
end
section
namespace Go.Proofs.YtpgfafpjfdbjmaaDoor
end Go.Proofs.YtpgfafpjfdbjmaaDoor
end
section
namespace Go.Proofs.YtpgfafpjfdbjmaaDoor.Q
open Go.RowKit Go.Proofs.YtpgfafpjfdbjmaaDoorW.PrintWords Go.Proofs.YtpgfafpjfdbjmaaDoorW.PrintLast Go.Proofs.YtpgfafpjfdbjmaaDoorW.PrintMore
attribute [local go_sem] max2_int min2_int max_two min_two max_three min_three max_four min_four   -- for this text's walks alone
set_option linter.unusedVariables false
set_option linter.unusedSimpArgs false
attribute [local go_sem high] eqA23
def IsS70 (w0 W : World) (g : Nat) (f0 : ByteArray) (f1 : Int) : Prop := W.heap[g]? = some (.cells #[.string f0, .int .i64 f1] 70 (0, 0)) ∧ w0.heap.size ≤ g
theorem IsS70.grown {w0 W : World} {g : Nat} {f0 : ByteArray} {f1 : Int} {W1 : World} {row : Option Nat} (h : IsS70 w0 W g f0 f1) (hw : W.grownBy W1 row) (hne : some g ≠ row) : IsS70 w0 W1 g f0 f1 := by
  obtain ⟨hb, hg⟩ := h
  exact ⟨blk_grown hb hw hne, hg⟩
theorem IsS70.fresh {w0 W : World} {g : Nat} {f0 : ByteArray} {f1 : Int} (h : IsS70 w0 W g f0 f1) : ∀ k, W.heap.size ≤ k → k ≠ g := by
  obtain ⟨hb, hg⟩ := h
  exact Kd.freshB hb
theorem IsS70.kept {w0 W : World} {g : Nat} {f0 : ByteArray} {f1 : Int} {W1 : World} {S : Nat → Prop} (h : IsS70 w0 W g f0 f1) (hk : Kept W W1 S) (hne : ¬ S g) : IsS70 w0 W1 g f0 f1 := by
  obtain ⟨hb, hg⟩ := h
  exact ⟨blk_kept hb hk hne, hg⟩
theorem IsS70.below {w0 W : World} {g : Nat} {f0 : ByteArray} {f1 : Int} {W1 : World} (h : IsS70 w0 W g f0 f1) (hw : Below W.heap.size W W1) : IsS70 w0 W1 g f0 f1 := h.grown (grown_of_below hw none) (by simp)
theorem IsS70.alloc {w0 W : World} {g : Nat} {f0 : ByteArray} {f1 : Int} (h : IsS70 w0 W g f0 f1) (o : Obj) : IsS70 w0 (W.alloc o) g f0 f1 := h.below (below_alloc (Below.refl _ _) o)
theorem IsS70.drewN {w0 W : World} {g : Nat} {f0 : ByteArray} {f1 : Int} (h : IsS70 w0 W g f0 f1) (m : Nat) : IsS70 w0 (W.drewN m) g f0 f1 := h
theorem IsS70.drew {w0 W : World} {g : Nat} {f0 : ByteArray} {f1 : Int} (h : IsS70 w0 W g f0 f1) : IsS70 w0 W.drew g f0 f1 := h
theorem IsS70.at_ {w0 W : World} {g : Nat} {f0 : ByteArray} {f1 : Int} {w' : World} {m : Nat} (hq : W.drewN m = w') (h : IsS70 w0 W g f0 f1) : IsS70 w0 w' g f0 f1 := by subst hq; exact IsS70.drewN h m
theorem IsS70.apart {w0 W : World} {g : Nat} {f0 : ByteArray} {f1 : Int} {α : Type} {d : Kd α} {e : Nat} {base : Nat} {ok : Nat → Prop} {v : Value} {xs : List α} (h : IsS70 w0 W g f0 f1) (ho : d.R e W base ok v xs) (ht : ∀ q, q ∈ e :: d.E → q ≠ 70) : d.R e W base (fun k => ok k ∧ k ≠ g) v xs := by
  obtain ⟨hb, hg⟩ := h
  exact Kd.R_types ho hb ht
theorem IsS70.own_ne {w0 W : World} {g : Nat} {f0 : ByteArray} {f1 : Int} {α : Type} {d : Kd α} {e : Nat} {base : Nat} {ok : Nat → Prop} {v : Value} {xs : List α} (h : IsS70 w0 W g f0 f1) (ho : d.R e W base ok v xs) (ht : e ≠ 70) : some g ≠ v.ownBlock := by
  obtain ⟨hb, hg⟩ := h
  exact Kd.R_ne ho hb ht
theorem IsS70.lt {w0 W : World} {g : Nat} {f0 : ByteArray} {f1 : Int} (h : IsS70 w0 W g f0 f1) : g < W.heap.size := by
  obtain ⟨hb, hg⟩ := h
  exact blk_lt hb
theorem IsS70.ge {w0 W : World} {g : Nat} {f0 : ByteArray} {f1 : Int} (h : IsS70 w0 W g f0 f1) : w0.heap.size ≤ g := by
  obtain ⟨hb, hg⟩ := h
  exact hg
theorem IsS70.ne_blk {w0 W : World} {g : Nat} {f0 : ByteArray} {f1 : Int} {a : Nat} {cs : Array Value} {t : TypeId} {fr : Nat × Nat} (h : IsS70 w0 W g f0 f1) (hb2 : W.heap[a]? = some (.cells cs t fr)) (ht : t ≠ 70) : g ≠ a := by
  obtain ⟨hb, hg⟩ := h
  rintro rfl
  rw [hb] at hb2
  injection hb2 with hb2
  injection hb2 with _ ht2
  exact ht ht2.symm
theorem IsS70.far {w0 W : World} {g : Nat} {f0 : ByteArray} {f1 : Int} {p : Addr} (h : IsS70 w0 W g f0 f1) (hne : g ≠ p.block) (u : Value) : IsS70 w0 (W.setCell p u) g f0 f1 := by
  obtain ⟨hb, hg⟩ := h
  exact ⟨blk_far hb hne u, hg⟩
theorem IsS70.set_0 {w0 W : World} {g : Nat} {f0 : ByteArray} {f1 : Int} (h : IsS70 w0 W g f0 f1) (x : ByteArray) : IsS70 w0 (W.setCell ⟨g, 0, none⟩ (.string x)) g x f1 := by
  obtain ⟨hb, hg⟩ := h
  exact ⟨by simpa using blk_set hb 0 (.string x), hg⟩
theorem IsS70.set_1 {w0 W : World} {g : Nat} {f0 : ByteArray} {f1 : Int} (h : IsS70 w0 W g f0 f1) (x : Int) : IsS70 w0 (W.setCell ⟨g, 1, none⟩ (.int .i64 x)) g f0 x := by
  obtain ⟨hb, hg⟩ := h
  exact ⟨by simpa using blk_set hb 1 (.int .i64 x), hg⟩
theorem IsS70.new (w0 W : World) (f0 : ByteArray) (f1 : Int) (hB : Below w0.heap.size w0 W) : IsS70 w0 (W.alloc (.cells #[.string f0, .int .i64 f1] 70)) W.heap.size f0 f1 := ⟨by simpa using heap_alloc_new W _, hB.size⟩
end Go.Proofs.YtpgfafpjfdbjmaaDoor.Q
end
section
namespace Go.Proofs.YtpgfafpjfdbjmaaDoor
open Go.RowKit Q Go.Proofs.YtpgfafpjfdbjmaaDoorW.PrintWords Go.Proofs.YtpgfafpjfdbjmaaDoorW.PrintLast Go.Proofs.YtpgfafpjfdbjmaaDoorW.PrintMore
def H8 : V8 := ⟨1779033703, 3144134277, 1013904242, 2773480762, 1359893119, 2600822924, 528734635, 1541459225⟩
def V8.cells (x : V8) : Array Value := #[.int .u32 x.a, .int .u32 x.b, .int .u32 x.c, .int .u32 x.d, .int .u32 x.e, .int .u32 x.f, .int .u32 x.g, .int .u32 x.h]
def v8 (l : List Int) : V8 := ⟨l.getD 0 0, l.getD 1 0, l.getD 2 0, l.getD 3 0, l.getD 4 0, l.getD 5 0, l.getD 6 0, l.getD 7 0⟩
theorem v8_l (l : List Int) (h : l.length = 8) : (v8 l).l = l := by
  match l, h with
  | [a, b, c, d, e, f, g, i], _ => rfl
def bv (x : V8) (b : ByteArray) : V8 := v8 (blk KL x b)
theorem blk_len (K : List Int) (x : V8) (b : ByteArray) : (blk K x b).length = 8 := by unfold blk; rw [ad_len]; rfl
theorem bv_l (x : V8) (b : ByteArray) : (bv x b).l = blk KL x b := v8_l _ (blk_len _ _ _)
theorem block_any (x : V8) (b : ByteArray) (hb : b.size = 64) (w : World) :
    Calls Tryd.prog 73 #[.agg x.cells, .string b] w fun e w' => e = .returned (.agg (bv x b).cells) ∧ Below w.heap.size w w' := by
  have := block_calls x.a x.b x.c x.d x.e x.f x.g x.h b hb _ (Lib.hid rfl) w
  rw [← bv_l] at this
  exact this
def fd (x : V8) (t : ByteArray) : Nat → V8
  | 0 => x
  | k + 1 => bv (fd x t k) (t.extract (64 * k) (64 * k + 64))
def DSt (w : World) (g : Nat) (x : V8) (r : ByteArray) (n : Int) : Prop := w.heap[g]? = some (.cells #[.int .u32 x.a, .int .u32 x.b, .int .u32 x.c, .int .u32 x.d, .int .u32 x.e, .int .u32 x.f, .int .u32 x.g, .int .u32 x.h, .string r, .int .i64 n] 118 (0, 0))
theorem DSt.lt {w : World} {g : Nat} {x : V8} {r : ByteArray} {n : Int} (h : DSt w g x r n) : g < w.heap.size := (Array.getElem?_eq_some_iff.1 h).1
theorem DSt.c8 {w : World} {g : Nat} {x : V8} {r : ByteArray} {n : Int} (h : DSt w g x r n) : w.cell? ⟨g, 8, none⟩ = some (.string r) := by rw [Lib.cell_of_heap h]; rfl
theorem DSt.c9 {w : World} {g : Nat} {x : V8} {r : ByteArray} {n : Int} (h : DSt w g x r n) : w.cell? ⟨g, 9, none⟩ = some (.int .i64 n) := by rw [Lib.cell_of_heap h]; rfl
theorem DSt.free {w : World} {g : Nat} {x : V8} {r : ByteArray} {n : Int} (h : DSt w g x r n) (i : Nat) : w.frozen? ⟨g, i, none⟩ = false := Lib.frozen_of_heap h i
theorem DSt.set8 {w : World} {g : Nat} {x : V8} {r : ByteArray} {n : Int} (h : DSt w g x r n) (r' : ByteArray) : DSt (w.setCell ⟨g, 8, none⟩ (.string r')) g x r' n := by
  have : w.heap[g]? = _ := h
  simp [DSt, World.setCell, Array.getElem?_modify, this]
theorem DSt.set9 {w : World} {g : Nat} {x : V8} {r : ByteArray} {n : Int} (h : DSt w g x r n) (n' : Int) : DSt (w.setCell ⟨g, 9, none⟩ (.int .i64 n')) g x r n' := by
  have : w.heap[g]? = _ := h
  simp [DSt, World.setCell, Array.getElem?_modify, this]
theorem DSt.keep {w w' : World} {g : Nat} {x : V8} {r : ByteArray} {n : Int} (h : DSt w g x r n) (hb : Below w.heap.size w w') : DSt w' g x r n := (hb.block g h.lt).trans h
theorem DSt.range {w : World} {g : Nat} {x : V8} {r : ByteArray} {n : Int} (h : DSt w g x r n) : w.rangeAt g 0 x.cells.toList := by
  have := World.rangeAt_of_block h 0 8
  exact this
theorem DSt.there {w : World} {g : Nat} {x : V8} {r : ByteArray} {n : Int} (h : DSt w g x r n) : w.there g 0 8 := by
  intro j hj
  refine ⟨?_, h.free _⟩
  rw [Lib.cell_of_heap h, Nat.zero_add, List.getElem?_toArray, List.getElem?_eq_getElem (by simp; omega)]
  rfl
theorem DSt.setAll {w : World} {g : Nat} {x : V8} {r : ByteArray} {n : Int} (h : DSt w g x r n) (y : V8) : DSt (w.setCells g 0 y.cells.toList) g y r n := by
  have : w.heap[g]? = _ := h
  simp [DSt, V8.cells, World.setCells, World.setCell, Array.getElem?_modify, this]
theorem Bf.setCell {B g : Nat} {w w' : World} (h : Bf B g w w') (i : Nat) (v : Value) : Bf B g w (w'.setCell ⟨g, i, none⟩ v) :=
  h.trans ⟨rfl, rfl, rfl, by simp [World.setCell], fun k _ hk => Below.heap_setCell _ _ _ _ (fun e => hk e)⟩
theorem setCells_other (g : Nat) : ∀ (vs : List Value) (o : Nat) (w : World) (k : Nat), k ≠ g → (w.setCells g o vs).heap[k]? = w.heap[k]? ∧ (w.setCells g o vs).heap.size = w.heap.size ∧ (w.setCells g o vs).os = w.os ∧ (w.setCells g o vs).tape = w.tape ∧ (w.setCells g o vs).output = w.output
  | [], _, _, _, _ => ⟨rfl, rfl, rfl, rfl, rfl⟩
  | v :: vs, o, w, k, hk => by
    have := setCells_other g vs (o + 1) (w.setCell ⟨g, o, none⟩ v) k hk
    refine ⟨this.1.trans (Below.heap_setCell _ _ _ _ (fun e => hk e)), this.2.1.trans (by simp [World.setCell]), this.2.2.1, this.2.2.2.1, this.2.2.2.2⟩
theorem Bf.setCells {B g : Nat} {w w' : World} (h : Bf B g w w') (o : Nat) (vs : List Value) : Bf B g w (w'.setCells g o vs) := by
  have h0 := setCells_other g vs o w' (g + 1) (by omega)
  exact h.trans ⟨h0.2.2.1, h0.2.2.2.1, h0.2.2.2.2, by rw [h0.2.1]; exact Nat.le_refl _, fun k _ hk => (setCells_other g vs o w' k hk).1⟩
set_option maxRecDepth 100000 in
set_option maxHeartbeats 400000 in
theorem dnew_calls (w : World) : Calls Tryd.prog 48 #[] w fun e w' => ∃ g, e = .returned (.pointer (some ⟨g, 0, none⟩)) ∧ DSt w' g H8 ⟨#[]⟩ 0 ∧ w.heap.size ≤ g ∧ Below w.heap.size w w' := by
  go_enter Tryd.func48, Tryd.ntmps48
  go_wp2_with fail
  have hh := begin_calls w
  refine Calls.mono hh ?_
  clear hh
  rintro e w1 ⟨rfl, b1⟩
  have HB := Lib.hid b1
  clear b1
  go_wp2_with fail
  go_ret
  refine ⟨w1.heap.size, rfl, ?_, HB.out.size, below_alloc HB.out _⟩
  unfold DSt
  rw [heap_alloc_new]
  simp [arr, H0, H8]
end Go.Proofs.YtpgfafpjfdbjmaaDoor
end
section
namespace Go.Proofs.YtpgfafpjfdbjmaaDoor
open Go.RowKit Q Go.Proofs.YtpgfafpjfdbjmaaDoorW.PrintWords Go.Proofs.YtpgfafpjfdbjmaaDoorW.PrintLast Go.Proofs.YtpgfafpjfdbjmaaDoorW.PrintMore
theorem DSt.load8 {w : World} {g : Nat} {x : V8} {r : ByteArray} {n : Int} (h : DSt w g x r n) : (Instr.loadAt 115 (.pointer (some ⟨g, 0, none⟩))).run Tryd.prog w = .ok (.agg x.cells) w :=
  run_loadAt_mid w g 0 115 x.cells.toList _ h.range Tryd.underlying115 rfl (by rw [size8]; rfl)
theorem load8_run (ev : Operand → Value) (x : Operand) {W : World} {g : Nat} {y : V8} {r : ByteArray} {n : Int} (h : DSt W g y r n) (hx : ev x = .pointer (some ⟨g, 0, none⟩)) {o : Oper} (ho : o.op = .load 115 x) :
    (execOp ev o).run Tryd.prog W = .ok (.value (.agg y.cells)) W := by
  unfold execOp
  simp only [ho, hx, Sem.run_bind, Result.andThen_ok, h.load8, Sem.run_pure]
theorem store8_run (ev : Operand → Value) (x y : Operand) {W : World} {g : Nat} {x0 : V8} {r : ByteArray} {n : Int} (h : DSt W g x0 r n) (z : V8) (hx : ev x = .pointer (some ⟨g, 0, none⟩)) (hy : ev y = .agg z.cells) {o : Oper} (ho : o.op = .store 115 x y) :
    (execOp ev o).run Tryd.prog W = .ok .skip (W.setCells g 0 z.cells.toList) := by
  unfold execOp
  simp only [ho, hx, hy, Sem.run_bind, Result.andThen_ok, run_storeAt_mid W g 0 115 z.cells h.there (by rw [size8]; rfl) (arr_one .u32 z.l), Sem.run_pure]
set_option maxRecDepth 100000 in
set_option maxHeartbeats 1000000 in
theorem dadd_calls (g : Nat) (x : V8) (r s : ByteArray) (n : Nat) (w : World) (h : DSt w g x r n) (hr : r.size ≤ 64) (hs : s.size ≤ 140737488355328) (hn : n ≤ 140737488355328) :
    Calls Tryd.prog 49 #[.pointer (some ⟨g, 0, none⟩), .string s] w fun e w' => e = .returned (.int .i64 (n + s.size : Nat)) ∧ DSt w' g (fd x (r ++ s) ((r ++ s).size / 64)) ((r ++ s).extract (64 * ((r ++ s).size / 64)) (r ++ s).size) (n + s.size : Nat) ∧ Bf w.heap.size g w w' := by
  have HD : Aside0 (DSt ((w.setCell ⟨g, 9, none⟩ (.int .i64 ((n + s.size : Nat) : Int))).setCell ⟨g, 8, none⟩ (.string (r ++ s))) g x (r ++ s) ((n + s.size : Nat) : Int)) := ⟨(h.set9 _).set8 _⟩
  have HF : Aside0 (Bf w.heap.size g w ((w.setCell ⟨g, 9, none⟩ (.int .i64 ((n + s.size : Nat) : Int))).setCell ⟨g, 8, none⟩ (.string (r ++ s)))) := ⟨((Bf.refl _ _ _).setCell _ _).setCell _ _⟩
  have HG := Aside0.mk h.lt
  have c8 := h.c8
  have c9 := h.c9
  have f8 := h.free 8
  have f9 := h.free 9
  have hw9 : IntKind.i64.wrap ((n : Int) + (s.size : Int)) = (n : Int) + (s.size : Int) := IntWalk.i64_in _ (by omega)
  have hsz : r.size + s.size ≤ 9223372036854775807 := by omega
  clear h
  go_enter Tryd.func49, Tryd.ntmps49
  go_wp2_with fail
  rw [show (n : Int) + (s.size : Int) = ((n + s.size : Nat) : Int) by omega]
  clear c8 c9 f8 f9 hw9 hsz
  have hT : (r ++ s).size ≤ 140737488355400 := by rw [ByteArray.size_append]; omega
  generalize (w.setCell ⟨g, 9, none⟩ (.int .i64 ((n + s.size : Nat) : Int))).setCell ⟨g, 8, none⟩ (.string (r ++ s)) = w1 at *
  generalize hN : ((n + s.size : Nat) : Int) = N at *
  generalize ht : r ++ s = t at *
  have HN := Lib.hid hN
  have Ht := Lib.hid ht
  clear hN ht
  go_loopg [] (t.size / 64) (fun m wr => ∃ k : Nat, k + m = t.size / 64 ∧ Aside0 (DSt wr g (fd x t k) (t.extract (64 * k) t.size) N) ∧ Aside0 (Bf w.heap.size g w wr))
  case atStart => exact ⟨0, by omega, ⟨by rw [Nat.mul_zero, ByteArray.extract_zero_size]; exact HD.out⟩, HF⟩
  case round =>
    clear HD HF
    obtain ⟨k, hk, HD, HF⟩ := hrel
    have hq : (t.extract (64 * k) t.size).size = t.size - 64 * k := by rw [ByteArray.size_extract]; omega
    have hx1 : Hid (64 * k + 64 ≤ t.size → bv (fd x t k) ((t.extract (64 * k) t.size).extract 0 64) = fd x t (k + 1)) := Lib.hid (by intro h; rw [fd, ByteArray.extract_extract]; congr 2; omega)
    have hq1 : Hid ((t.extract (64 * k) t.size).extract 64 (t.extract (64 * k) t.size).size = t.extract (64 * (k + 1)) t.size) := Lib.hid (by rw [hq, ByteArray.extract_extract]; congr 1 <;> omega)
    have c8 := HD.out.c8
    have c9 := HD.out.c9
    have HR : Hid (t.extract (64 * k) t.size = t.extract (64 * (t.size / 64)) t.size ∧ fd x t k = fd x t (t.size / 64) ∨ 64 ≤ (t.extract (64 * k) t.size).size) := Lib.hid (by
      rcases Nat.lt_or_ge k (t.size / 64) with h | h
      · right; omega
      · left; have : k = t.size / 64 := by omega
        rw [this]; exact ⟨rfl, rfl⟩)
    generalize fd x t k = y at *
    generalize t.extract (64 * k) t.size = q at *
    have hqm : q.size ≤ 140737488355400 := by omega
    by_cases hge : 64 ≤ q.size
    · have hlt : k + 1 ≤ t.size / 64 := by omega
      clear hq
      go_wp2_with fail
      have hq64 : (q.extract 0 64).size = 64 := by rw [ByteArray.size_extract]; omega
      refine start_ (n := 23) (S := fun w' => w'.cell? ⟨g, 8, none⟩ = some (.string q) ∧ Aside0 (DSt w' g y q N) ∧ Aside0 (Bf w.heap.size g w w')) (ds := [19, 22]) #[false, false, false, false, false, false, false, false, false, false, false, false, false, false, false, false, false, false, false, false, false, false, false] (by kernel_rfl) rfl rfl ⟨DSt.c8 (w := wr.drew) HD.out, ⟨HD.out⟩, ⟨HF.out.trans ⟨rfl, rfl, rfl, Nat.le_refl _, fun _ _ _ => rfl⟩⟩⟩ (fun hHeld => ?_)
      refine pure_ (i := 0) (N := some 30) (v := ?_) (a' := ?_) #[true, false, false, false, false, false, false, false, false, false, false, false, false, false, false, false, false, false, false, false, false, false, false] rfl rfl (by kernel_rfl) (fun _ _ _ h => h) (Or.inl ⟨by rfl, ?_⟩) ?_ ?_
      rotate_left
      · intro w'
        go_simp
        with_reducible rfl
      rotate_left
      · simp only [Act.put, List.setIfInBounds_toArray, List.set_cons_zero, List.set_cons_succ]
        rfl
      refine pure_ (i := 1) (N := some 31) (v := ?_) (a' := ?_) #[true, true, false, false, false, false, false, false, false, false, false, false, false, false, false, false, false, false, false, false, false, false, false] rfl rfl (by kernel_rfl) (fun _ _ _ h => h) (Or.inl ⟨by rfl, ?_⟩) ?_ ?_
      rotate_left
      · intro w'
        go_simp
        with_reducible rfl
      rotate_left
      · simp only [Act.put, List.setIfInBounds_toArray, List.set_cons_zero, List.set_cons_succ]
        rfl
      refine pure_ (i := 2) (N := some 32) (v := ?_) (a' := ?_) #[true, true, true, false, false, false, false, false, false, false, false, false, false, false, false, false, false, false, false, false, false, false, false] rfl rfl (by kernel_rfl) (fun _ _ _ h => h) (Or.inl ⟨by rfl, ?_⟩) ?_ ?_
      rotate_left
      · intro w'
        go_simp
        with_reducible rfl
      rotate_left
      · simp only [Act.put, List.setIfInBounds_toArray, List.set_cons_zero, List.set_cons_succ]
        rfl
      refine pure_ (i := 3) (N := some 33) (v := ?_) (a' := ?_) #[true, true, true, true, false, false, false, false, false, false, false, false, false, false, false, false, false, false, false, false, false, false, false] rfl rfl (by kernel_rfl) (fun _ _ _ h => h) (Or.inl ⟨by rfl, ?_⟩) ?_ ?_
      rotate_left
      · intro w'
        go_simp
        with_reducible rfl
      rotate_left
      · simp only [Act.put, List.setIfInBounds_toArray, List.set_cons_zero, List.set_cons_succ]
        rfl
      refine pure_ (i := 4) (N := some 34) (v := ?_) (a' := ?_) #[true, true, true, true, true, false, false, false, false, false, false, false, false, false, false, false, false, false, false, false, false, false, false] rfl rfl (by kernel_rfl) (fun _ _ _ h => h) (Or.inl ⟨by rfl, ?_⟩) ?_ ?_
      rotate_left
      · intro w'
        go_simp
        with_reducible rfl
      rotate_left
      · simp only [Act.put, List.setIfInBounds_toArray, List.set_cons_zero, List.set_cons_succ]
        rfl
      refine pure_ (i := 6) (N := some 36) (v := ?_) (a' := ?_) #[true, true, true, true, true, false, true, false, false, false, false, false, false, false, false, false, false, false, false, false, false, false, false] rfl rfl (by kernel_rfl) (fun _ _ _ h => h) (Or.inl ⟨by rfl, ?_⟩) ?_ ?_
      rotate_left
      · intro w'
        go_simp
        with_reducible rfl
      rotate_left
      · simp only [Act.put, List.setIfInBounds_toArray, List.set_cons_zero, List.set_cons_succ]
        rfl
      refine pure_ (i := 7) (N := some 37) (v := ?_) (a' := ?_) #[true, true, true, true, true, false, true, true, false, false, false, false, false, false, false, false, false, false, false, false, false, false, false] rfl rfl (by kernel_rfl) (fun _ _ _ h => h) (Or.inl ⟨by rfl, ?_⟩) ?_ ?_
      rotate_left
      · intro w'
        go_simp
        with_reducible rfl
      rotate_left
      · simp only [Act.put, List.setIfInBounds_toArray, List.set_cons_zero, List.set_cons_succ]
        rfl
      refine pure_ (i := 8) (N := some 38) (v := ?_) (a' := ?_) #[true, true, true, true, true, false, true, true, true, false, false, false, false, false, false, false, false, false, false, false, false, false, false] rfl rfl (by kernel_rfl) (fun _ _ _ h => h) (Or.inl ⟨by rfl, ?_⟩) ?_ ?_
      rotate_left
      · intro w'
        go_simp
        with_reducible rfl
      rotate_left
      · simp only [Act.put, List.setIfInBounds_toArray, List.set_cons_zero, List.set_cons_succ]
        rfl
      refine pure_ (i := 12) (N := some 42) (v := ?_) (a' := ?_) #[true, true, true, true, true, false, true, true, true, false, false, false, true, false, false, false, false, false, false, false, false, false, false] rfl rfl (by kernel_rfl) (fun _ _ _ h => h) (Or.inl ⟨by rfl, ?_⟩) ?_ ?_
      rotate_left
      · intro w'
        go_simp
        with_reducible rfl
      rotate_left
      · simp only [Act.put, List.setIfInBounds_toArray, List.set_cons_zero, List.set_cons_succ]
        rfl
      refine pure_ (i := 13) (N := some 43) (v := ?_) (a' := ?_) #[true, true, true, true, true, false, true, true, true, false, false, false, true, true, false, false, false, false, false, false, false, false, false] rfl rfl (by kernel_rfl) (fun _ _ _ h => h) (Or.inl ⟨by rfl, ?_⟩) ?_ ?_
      rotate_left
      · intro w'
        go_simp
        with_reducible rfl
      rotate_left
      · simp only [Act.put, List.setIfInBounds_toArray, List.set_cons_zero, List.set_cons_succ]
        rfl
      refine pure_ (i := 14) (N := some 44) (v := ?_) (a' := ?_) #[true, true, true, true, true, false, true, true, true, false, false, false, true, true, true, false, false, false, false, false, false, false, false] rfl rfl (by kernel_rfl) (fun _ _ _ h => h) (Or.inl ⟨by rfl, ?_⟩) ?_ ?_
      rotate_left
      · intro w'
        go_simp
        with_reducible rfl
      rotate_left
      · simp only [Act.put, List.setIfInBounds_toArray, List.set_cons_zero, List.set_cons_succ]
        rfl
      refine take_ (i := 5) (N := some 35) (v := ?_) (a' := ?_) #[true, true, true, true, true, true, true, true, true, false, false, false, true, true, true, false, false, false, false, false, false, false, false] rfl rfl (by kernel_rfl) (fun _ _ _ h => h) (Or.inl ⟨by rfl, ?_⟩) hHeld ?_ ?_
      rotate_left
      · rintro w' ⟨s0, s1, s2⟩
        refine load8_run _ (.tmp 34) s1.out ?_ ?_ <;> rfl
      rotate_left
      · simp only [Act.put, List.setIfInBounds_toArray, List.set_cons_zero, List.set_cons_succ]
        rfl
      refine take_ (i := 9) (N := some 39) (v := ?_) (a' := ?_) #[true, true, true, true, true, true, true, true, true, true, false, false, true, true, true, false, false, false, false, false, false, false, false] rfl rfl (by kernel_rfl) (fun _ _ _ h => h) (Or.inl ⟨by rfl, ?_⟩) hHeld ?_ ?_
      rotate_left
      · rintro w' ⟨s0, s1, s2⟩
        go_simp
        with_reducible rfl
      rotate_left
      · simp only [Act.put, List.setIfInBounds_toArray, List.set_cons_zero, List.set_cons_succ]
        rfl
      refine pure_ (i := 10) (N := some 40) (v := ?_) (a' := ?_) #[true, true, true, true, true, true, true, true, true, true, true, false, true, true, true, false, false, false, false, false, false, false, false] rfl rfl (by kernel_rfl) (fun _ _ _ h => h) (Or.inl ⟨by rfl, ?_⟩) ?_ ?_
      rotate_left
      · intro w'
        go_simp
        with_reducible rfl
      rotate_left
      · simp only [Act.put, List.setIfInBounds_toArray, List.set_cons_zero, List.set_cons_succ]
        rfl
      refine take_ (i := 15) (N := some 45) (v := ?_) (a' := ?_) #[true, true, true, true, true, true, true, true, true, true, true, false, true, true, true, true, false, false, false, false, false, false, false] rfl rfl (by kernel_rfl) (fun _ _ _ h => h) (Or.inl ⟨by rfl, ?_⟩) hHeld ?_ ?_
      rotate_left
      · rintro w' ⟨s0, s1, s2⟩
        go_simp
        with_reducible rfl
      rotate_left
      · simp only [Act.put, List.setIfInBounds_toArray, List.set_cons_zero, List.set_cons_succ]
        rfl
      refine pure_ (i := 16) (N := some 46) (v := ?_) (a' := ?_) #[true, true, true, true, true, true, true, true, true, true, true, false, true, true, true, true, true, false, false, false, false, false, false] rfl rfl (by kernel_rfl) (fun _ _ _ h => h) (Or.inl ⟨by rfl, ?_⟩) ?_ ?_
      rotate_left
      · intro w'
        go_simp
        with_reducible rfl
      rotate_left
      · simp only [Act.put, List.setIfInBounds_toArray, List.set_cons_zero, List.set_cons_succ]
        rfl
      refine one_ (i := 11) (N := some 41) #[true, true, true, true, true, true, true, true, true, true, true, true, true, true, true, true, true, false, false, false, false, false, false] rfl rfl (by kernel_rfl) (by decide) (fun K hK => ?_)
      refine goes_ Tryd.func73 (by kernel_rfl) rfl #[.agg y.cells, .string (q.extract 0 64)] (by rfl) rfl rfl (by simp only [List.map_toArray, List.map_cons, List.map_nil]; rfl) ?_
      with_reducible refine (block_any y _ hq64 _).mono ?_
      rintro e w3 ⟨rfl, hb⟩
      refine ⟨_, rfl, ?_⟩
      have HD3 := hHeld.2.1.out.keep hb
      have HF3 := hHeld.2.2.out.trans (Bf.of_below hb hHeld.2.2.out.size)
      refine hK.out _ _ ⟨HD3.c8, ⟨HD3⟩, ⟨HF3⟩⟩ (fun hHeld => ?_)
      clear hK K
      refine norm_ (a' := ?_) ?_ ?_
      rotate_left
      · show Act.put _ (some 41) _ = _
        simp only [Act.put, List.setIfInBounds_toArray, List.set_cons_zero, List.set_cons_succ]
        rfl
      refine pure_ (i := 17) (N := some 47) (v := ?_) (a' := ?_) #[true, true, true, true, true, true, true, true, true, true, true, true, true, true, true, true, true, true, false, false, false, false, false] rfl rfl (by kernel_rfl) (fun _ _ _ h => h) (Or.inl ⟨by rfl, ?_⟩) ?_ ?_
      rotate_left
      · intro w'
        go_simp
        with_reducible rfl
      rotate_left
      · simp only [Act.put, List.setIfInBounds_toArray, List.set_cons_zero, List.set_cons_succ]
        rfl
      refine pure_ (i := 18) (N := some 48) (v := ?_) (a' := ?_) #[true, true, true, true, true, true, true, true, true, true, true, true, true, true, true, true, true, true, true, false, false, false, false] rfl rfl (by kernel_rfl) (fun _ _ _ h => h) (Or.inl ⟨by rfl, ?_⟩) ?_ ?_
      rotate_left
      · intro w'
        go_simp
        with_reducible rfl
      rotate_left
      · simp only [Act.put, List.setIfInBounds_toArray, List.set_cons_zero, List.set_cons_succ]
        rfl
      refine last_ (i := 19) (N := none) #[true, true, true, true, true, true, true, true, true, true, true, true, true, true, true, true, true, true, true, true, false, false, false] rfl rfl (by kernel_rfl) (by decide) (fun K hK => ?_)
      refine skip_ (by rfl) rfl (store8_run _ (.tmp 48) (.tmp 41) hHeld.2.1.out (bv y (q.extract 0 64)) rfl rfl rfl) ?_
      have HD4 := hHeld.2.1.out.setAll (bv y (q.extract 0 64))
      have HF4 := hHeld.2.2.out.setCells 0 (bv y (q.extract 0 64)).cells.toList
      clear hHeld HD3 HF3 hb
      generalize w3.setCells g 0 (bv y (q.extract 0 64)).cells.toList = w4 at *
      have c84 := HD4.c8
      have f84 := HD4.free 8
      have HD5 := Aside0.mk HD4
      have HF5 := Aside0.mk HF4
      clear HD4 HF4
      refine hK.out _ _ ?_
      clear hK K
      refine pure_ (i := 20) (N := some 49) (v := ?_) (a' := ?_) #[true, true, true, true, true, true, true, true, true, true, true, true, true, true, true, true, true, true, true, true, true, false, false] rfl rfl (by kernel_rfl) (fun _ _ _ h => h) (Or.inl ⟨by rfl, ?_⟩) ?_ ?_
      rotate_left
      · intro w'
        go_simp
        with_reducible rfl
      rotate_left
      · simp only [Act.put, List.setIfInBounds_toArray, List.set_cons_zero, List.set_cons_succ]
        rfl
      refine pure_ (i := 21) (N := some 50) (v := ?_) (a' := ?_) #[true, true, true, true, true, true, true, true, true, true, true, true, true, true, true, true, true, true, true, true, true, true, false] rfl rfl (by kernel_rfl) (fun _ _ _ h => h) (Or.inl ⟨by rfl, ?_⟩) ?_ ?_
      rotate_left
      · intro w'
        go_simp
        with_reducible rfl
      rotate_left
      · simp only [Act.put, List.setIfInBounds_toArray, List.set_cons_zero, List.set_cons_succ]
        rfl
      refine last_ (i := 22) (N := none) #[true, true, true, true, true, true, true, true, true, true, true, true, true, true, true, true, true, true, true, true, true, true, true] rfl rfl (by kernel_rfl) (by decide) (fun K hK => ?_)
      refine skip_ (w1 := ?_) (by rfl) rfl ?_ ?_
      rotate_left
      · go_simp
        rfl
      refine hK.out _ _ ?_
      clear hK K
      refine done_ (by kernel_rfl) ?_

      go_wp2_with fail
      obtain ⟨m, rfl⟩ : ∃ m, gk = m + 1 := ⟨gk - 1, by omega⟩
      go_roundg m
      case measure => omega
      case rel =>
        have h1 := HD5.out.set8 (q.extract 64 q.size)
        have h2 := HF5.out.setCell 8 (.string (q.extract 64 q.size))
        have e1 := hx1.out (by omega)
        have e2 := hq1.out
        refine ⟨k + 1, by omega, ⟨?_⟩, ⟨h2⟩⟩
        rw [← e1, ← e2]
        exact h1
    · go_wp2_with fail
      go_ret
      rcases HR.out with ⟨h1, h2⟩ | h1
      · have h3 := HD.out
        rw [h1, h2, ← Ht.out, ← HN.out] at h3
        exact ⟨by rw [HN.out]; rfl, h3, HF.out⟩
      · exact absurd h1 hge
end Go.Proofs.YtpgfafpjfdbjmaaDoor
end
section
namespace Go.Proofs.YtpgfafpjfdbjmaaDoor
open Go.RowKit
section
variable {P : Program}
def RowB (B : Nat) (E : TypeId) (v : Value) (l : List UInt8) (w : World) : Prop :=
  (v = .slice none 0 0 ∧ l = []) ∨
  ∃ g cap cur fz, v = .slice (some ⟨g, 0, none⟩) l.length cap ∧ B ≤ g ∧ w.heap[g]? = some (.cells cur E fz) ∧ (∀ i, l.length ≤ i → i < cap → fz.1 ≤ i → fz.2 ≤ i) ∧ l.length ≤ cap ∧ cap ≤ maxLen ∧ cur.size = cap ∧ cur.toList.take l.length = Lib.byteCells l
theorem RowB.lt {B : Nat} {E : TypeId} {v : Value} {l : List UInt8} {w : World} (h : RowB B E v l w) : ∀ k, v.ownBlock = some k → B ≤ k ∧ k < w.heap.size := by
  intro k hk
  rcases h with ⟨rfl, _⟩ | ⟨g, cap, cur, fz, rfl, hb, hg, _⟩
  · simp [Value.ownBlock] at hk
  · simp [Value.ownBlock] at hk
    subst hk
    exact ⟨hb, (Array.getElem?_eq_some_iff.1 hg).1⟩
theorem RowB.keep {B : Nat} {E : TypeId} {v : Value} {l : List UInt8} {w w' : World} (h : RowB B E v l w) (hk : ∀ g, v.ownBlock = some g → w'.heap[g]? = w.heap[g]?) : RowB B E v l w' := by
  rcases h with h | ⟨g, cap, cur, fz, rfl, hb, hg, rest⟩
  · exact .inl h
  · exact .inr ⟨g, cap, cur, fz, rfl, hb, (hk g rfl).trans hg, rest⟩
theorem RowB.below {B : Nat} {E : TypeId} {v : Value} {l : List UInt8} {w w' : World} (h : RowB B E v l w) (hb : Below w.heap.size w w') : RowB B E v l w' :=
  h.keep (fun g hg => hb.block g (h.lt g hg).2)
theorem RowB.alloc {B : Nat} {E : TypeId} {v : Value} {l : List UInt8} {w : World} (h : RowB B E v l w) (o : Obj) : RowB B E v l (w.alloc o) :=
  h.keep (fun g hg => Lib.alloc_old w o g (h.lt g hg).2)
theorem RowB.grown {B : Nat} {E : TypeId} {v : Value} {l : List UInt8} {w w' : World} {row : Option Nat} (h : RowB B E v l w) (hg : w.grownBy w' row) (hne : ∀ g, v.ownBlock = some g → some g ≠ row) : RowB B E v l w' :=
  h.keep (fun g hk => hg.block g (h.lt g hk).2 (hne g hk))
theorem RowB.raise {B B' : Nat} {E : TypeId} {v : Value} {l : List UInt8} {w : World} (h : RowB B E v l w) (hB : B' ≤ B) : RowB B' E v l w := by
  rcases h with h | ⟨g, cap, cur, fz, rfl, hb, hg, rest⟩
  · exact .inl h
  · exact .inr ⟨g, cap, cur, fz, rfl, by omega, hg, rest⟩
theorem RowB.cells {B : Nat} {E : TypeId} {v : Value} {l : List UInt8} {w : World} (h : RowB B E v l w) {g : Nat} (hg : v.ownBlock = some g) : ∀ j x, l[j]? = some x → w.cell? ⟨g, j, none⟩ = some (.int .u8 (x.toNat : Int)) := by
  intro j x hx
  rcases h with ⟨rfl, _⟩ | ⟨g', cap, cur, fz, rfl, _, hgg, _, _, _, _, htake⟩
  · simp [Value.ownBlock] at hg
  · simp [Value.ownBlock] at hg
    subst hg
    have hu : (Lib.byteCells l)[j]? = some (.int .u8 (x.toNat : Int)) := by simp [Lib.byteCells, hx]
    rw [cell_of_row w g' j cur E fz hgg]
    rw [← htake, List.getElem?_take] at hu
    split at hu
    · simpa using hu
    · cases hu
theorem RowB.ne {B : Nat} {E : TypeId} {v : Value} {l : List UInt8} {w : World} (h : RowB B E v l w) (h0 : l ≠ []) : ∃ g cap, v = .slice (some ⟨g, 0, none⟩) l.length cap ∧ B ≤ g ∧ g < w.heap.size ∧ l.length ≤ cap ∧ cap ≤ maxLen := by
  rcases h with ⟨_, h⟩ | ⟨g, cap, cur, fz, rfl, hb, hgg, _, h1, h2, _⟩
  · exact absurd h h0
  · exact ⟨g, cap, rfl, hb, (Array.getElem?_eq_some_iff.1 hgg).1, h1, h2⟩
theorem byteCells_one (l : List UInt8) : ∀ u ∈ Lib.byteCells l, u.oneCell' = true := by
  intro u hu
  simp only [Lib.byteCells, List.mem_map] at hu
  obtain ⟨x, _, rfl⟩ := hu
  rfl
theorem RowB.bytes (w : World) (E : TypeId) (s : ByteArray) (hs : s.size ≤ maxLen) : RowB w.heap.size E (.slice (some ⟨w.heap.size, 0, none⟩) s.size (grownCap w s.size 0 E)) s.data.toList (Lib.bytesWorld w E s) := by
  have hge := grownCap_ge w s.size 0 E
  have hle := grownCap_le_maxLen w s.size 0 E hs
  have hl : s.data.toList.length = s.size := Array.length_toList
  have hc : (Lib.bytesCells w E s).size = grownCap w s.size 0 E := by
    unfold Lib.bytesCells
    rw [Array.size_append, Array.size_map, Array.size_replicate]
    have : s.data.size = s.size := rfl
    omega
  refine .inr ⟨w.heap.size, _, _, _, by rw [hl], Nat.le_refl _, Lib.bytesWorld_at_new w E s, fun i h1 h2 h3 => ?_, by rw [hl]; exact hge, hle, hc, ?_⟩
  · rw [hc] at h3; simp only at h3; omega
  · unfold Lib.bytesCells Lib.byteCells
    rw [Array.toList_append, Array.toList_map]
    rw [List.take_append_of_le_length (by simp)]
    rw [List.take_of_length_le (by simp)]
theorem RowB.bytesBelow (w : World) (E : TypeId) (s : ByteArray) : Below w.heap.size w (Lib.bytesWorld w E s) :=
  ⟨rfl, rfl, rfl, by rw [Lib.bytesWorld_size]; omega, fun i hi => Lib.bytesWorld_at_old _ _ _ _ hi⟩
theorem run_storeCells_free (g : Nat) (t : TypeId) (fz : Nat × Nat) : ∀ (vs : List Value) (o i : Nat) (cur : Array Value) (w : World), w.heap[g]? = some (.cells cur t fz) → (∀ k, o + i ≤ k → k < o + i + vs.length → fz.1 ≤ k → fz.2 ≤ k) → o + i + vs.length ≤ cur.size → (∀ v ∈ vs, v.oneCell' = true) →
    (storeCells ⟨g, o, none⟩ vs i).run P w = .ok () (w.setRow g (cur.toList.take (o + i) ++ vs ++ cur.toList.drop (o + i + vs.length)).toArray)
  | [], o, i, cur, w, hg, _, _, _ => by
    simp only [storeCells, List.append_nil, List.length_nil, Nat.add_zero, List.take_append_drop, Array.toArray_toList]
    rw [setRow_self w g cur t fz hg]
    rfl
  | v :: rest, o, i, cur, w, hg, hfz, hl, h1 => by
    have hi : o + i < cur.size := by simp at hl; omega
    have hadd : (⟨g, o, none⟩ : Addr).add i = ⟨g, o + i, none⟩ := by unfold Addr.add; split <;> simp_all
    have hcell : w.cell? ⟨g, o + i, none⟩ = some cur[o + i] := by simp [World.cell?, hg, hi]
    have hfro : w.frozen? ⟨g, o + i, none⟩ = false := by
      have := hfz (o + i) (Nat.le_refl _) (by simp)
      obtain ⟨lo, hi'⟩ := fz
      simp only [World.frozen?, hg, Bool.and_eq_false_iff, decide_eq_false_iff_not]
      simp only at this
      omega
    have hst : (store ((⟨g, o, none⟩ : Addr).add i) v).run P w = .ok () (w.setRow g (cur.setIfInBounds (o + i) v)) := by
      rw [hadd, run_store P w _ v _ (h1 v (by simp)), hcell]
      simp [hfro, setCell_eq_setRow w g (o + i) cur t fz v hg]
    have ih := run_storeCells_free g t fz rest o (i + 1) (cur.setIfInBounds (o + i) v) (w.setRow g (cur.setIfInBounds (o + i) v)) (setRow_heap w g cur _ t _ hg) (fun k hk1 hk2 => hfz k (by omega) (by simp at hk2 ⊢; omega)) (by simp at hl ⊢; omega) (fun x hx => h1 x (by simp [hx]))
    simp only [storeCells, Sem.run_bind, hst, Result.andThen_ok, ih, setRow_setRow]
    congr 3
    have e := list_seg_step cur.toList (o + i) v rest (by simp at hl ⊢; omega)
    simpa [Array.toList_setIfInBounds, Nat.add_assoc] using e
theorem run_append_rowB (w : World) (B : Nat) (t ty E : TypeId) (i : TypeInfo) (ht : P.underlying t = some (.slice E)) (hi : P.info? E = some i) (hz : i.zero = some (.int .u8 0)) (hsize : i.size = 1) (hby : i.bytes = 1)
    (v : Value) (l m : List UInt8) (hown : RowB B E v l w) (a : Addr) (c : Nat) (hnews : ∀ j x, m[j]? = some x → w.cell? (a.add j) = some (.int .u8 (x.toNat : Int)))
    (hlen : l.length + m.length ≤ 140737488355328) (hbase : B ≤ w.heap.size) :
    ∃ v' w', (Builtin.append_ #[t, t] ty #[v, .slice (some a) m.length c]).run P w = .ok v' w' ∧ RowB B E v' (l ++ m) w' ∧ w.grownBy w' v.ownBlock := by
  have hm63 : l.length + m.length ≤ maxLen := by unfold maxLen; omega
  have hnews' : ∀ j u, (Lib.byteCells m)[j]? = some u → w.cell? (a.add j) = some u := by
    intro j u hj
    simp only [Lib.byteCells, List.getElem?_map, Option.map_eq_some_iff] at hj
    obtain ⟨x, hx, rfl⟩ := hj
    exact hnews j x hx
  rcases hown with ⟨rfl, rfl⟩ | ⟨g, cap, cur, fz, rfl, hbg, hg, hfz, hnc, hcm, hcs, htake⟩
  · obtain ⟨v', w', r1, r2, r3, _⟩ := run_append_own (P := P) w B t ty E i (.int .u8 0) 1 1 ht hi hz hsize hby rfl (by decide) (.slice none 0 0) 0 [] ⟨rfl, .inl ⟨rfl, rfl⟩⟩ a m.length c (Lib.byteCells m) (by rw [Lib.byteCells_length, Nat.mul_one]) hnews' (byteCells_one m) (by simpa using hm63) (by simp at hlen; omega) hbase
    refine ⟨v', w', r1, ?_, r3⟩
    rcases r2.2 with ⟨rfl, h0⟩ | ⟨g, cap, cur, hv, hb, hg, hnc, hcm, hcs, htk⟩
    · exact .inl ⟨rfl, List.eq_nil_of_length_eq_zero (by simpa using h0)⟩
    · refine .inr ⟨g, cap, cur, (0, 0), by simpa using hv, hb, hg, fun _ _ _ _ => by omega, by simpa using hnc, hcm, by simpa using hcs, ?_⟩
      simpa using htk
  · have hsmall : l.length + m.length ≤ 9223372036854775807 := by omega
    by_cases hroom : l.length + m.length ≤ cap
    · have hf := run_firstCells_some (P := P) w 1 m.length a m.length c (Lib.byteCells m) (by rw [Lib.byteCells_length, Nat.mul_one]) hnews'
      have hst := run_storeCells_free (P := P) g E fz (Lib.byteCells m) (l.length * 1) 0 cur w hg (fun k hk1 hk2 => hfz k (by omega) (by rw [Lib.byteCells_length] at hk2; omega)) (by rw [Lib.byteCells_length]; omega) (byteCells_one m)
      simp only [Nat.add_zero, Nat.mul_one] at hst hf
      have hr : (Builtin.append_ #[t, t] ty #[.slice (some ⟨g, 0, none⟩) l.length cap, .slice (some a) m.length c]).run P w = .ok (.slice (some ⟨g, 0, none⟩) (l.length + m.length) cap) (w.setRow g (cur.toList.take l.length ++ Lib.byteCells m ++ cur.toList.drop (l.length + (Lib.byteCells m).length)).toArray) := by
        simp [Builtin.append_, run_underlying ht, sizeOf, typeInfo, hi, hsize, Builtin.lenOf, hroom, hf, Addr.add_lit, hst]
      refine ⟨_, _, hr, .inr ⟨g, cap, _, fz, by rw [List.length_append], hbg, setRow_heap w g cur _ E _ hg, fun k hk1 hk2 => hfz k (by rw [List.length_append] at hk1; omega) hk2, by rw [List.length_append]; exact hroom, hcm, ?_, ?_⟩, ⟨rfl, rfl, rfl, by simp, fun k _ hk => setRow_other w g k _ (fun e => hk (by simp [Value.ownBlock, e]))⟩⟩
      · simp only [List.size_toArray, List.length_append, List.length_take, List.length_drop, Array.length_toList, Lib.byteCells_length]
        omega
      · rw [htake, Lib.byteCells_append]
        have : (l ++ m).length = (Lib.byteCells l ++ Lib.byteCells m).length := by simp [Lib.byteCells_length]
        rw [this]
        exact List.take_left
    · have holds : ∀ j u, (Lib.byteCells l)[j]? = some u → w.cell? ((⟨g, 0, none⟩ : Addr).add j) = some u := by
        intro j u hj
        simp only [Lib.byteCells, List.getElem?_map, Option.map_eq_some_iff] at hj
        obtain ⟨x, hx, rfl⟩ := hj
        have hadd : (⟨g, 0, none⟩ : Addr).add j = ⟨g, j, none⟩ := by unfold Addr.add; split <;> simp_all
        rw [hadd]
        exact RowB.cells (B := B) (E := E) (v := .slice (some ⟨g, 0, none⟩) l.length cap) (.inr ⟨g, cap, cur, fz, rfl, hbg, hg, hfz, hnc, hcm, hcs, htake⟩) rfl j x hx
      have hr := run_append_grow (P := P) w t ty E i (.int .u8 0) ht hi hz ⟨g, 0, none⟩ l.length cap (Lib.byteCells l) (by rw [Lib.byteCells_length, hsize, Nat.mul_one]) holds a m.length c (Lib.byteCells m) (by rw [Lib.byteCells_length, hsize, Nat.mul_one]) hnews' (by omega) (by omega) (growslice_fits (by omega) (by rw [hby]; omega))
      have hge := grownCap_ge w (l.length + m.length) cap E
      have hcm2 : grownCap w (l.length + m.length) cap E ≤ maxLen := grownCap_le_maxLen w (l.length + m.length) cap E hm63
      refine ⟨_, _, hr, .inr ⟨w.heap.size, _, _, (0, 0), by rw [List.length_append], hbase, heap_alloc_new w.drew _, fun _ _ _ _ => by omega, by rw [List.length_append]; exact hge, hcm2, ?_, ?_⟩, ⟨rfl, rfl, rfl, by simp, fun k hk _ => Lib.alloc_old w.drew _ k hk⟩⟩
      · simp only [Array.size_append, List.size_toArray, size_zeroCells, Lib.byteCells_length]
        have : (Value.int IntKind.u8 0).cells.size = 1 := rfl
        rw [this]
        omega
      · simp only [Array.toList_append, List.append_assoc]
        rw [← List.append_assoc, ← Lib.byteCells_append]
        have : (l ++ m).length = (Lib.byteCells (l ++ m)).length := by rw [Lib.byteCells_length]
        rw [this]
        exact List.take_left
theorem wpList_append_rowB {ops : Array Oper} {rest : List Oper} {o : Oper} {a : Act} {w : World} {Q : Exit → Act → World → Prop} (hgd : o.guard = none) (s x : Operand) (t : TypeId)
    (ho : o.op = .call { callee := .builtin .append, args := #[s, x], argTypes := #[t, t] })
    (B : Nat) (E : TypeId) (i : TypeInfo) (ht : P.underlying t = some (.slice E)) (hi : P.info? E = some i) (hz : i.zero = some (.int .u8 0)) (hsize : i.size = 1) (hby : i.bytes = 1)
    (v : Value) (l m : List UInt8) (hs : a.eval s = v) (hown : RowB B E v l w) (ad : Addr) (c : Nat) (hx : a.eval x = .slice (some ad) m.length c) (hnews : ∀ j x, m[j]? = some x → w.cell? (ad.add j) = some (.int .u8 (x.toNat : Int)))
    (hlen : l.length + m.length ≤ 140737488355328) (hbase : B ≤ w.heap.size)
    (h : ∀ v' w', RowB B E v' (l ++ m) w' → w.grownBy w' v.ownBlock → wpList P ops Q rest (a.put o.dst v') w') : wpList P ops Q (o :: rest) a w := by
  refine wpList_plain hgd fun K hK => ?_
  obtain ⟨v', w', hr, h2, h3⟩ := run_append_rowB (P := P) w B t o.type E i ht hi hz hsize hby v l m hown ad c hnews hlen hbase
  unfold Oper.wp execOp
  simp only [ho, resolve, invoke, builtin, Sem.run_bind, Sem.run_pure, Result.andThen_ok, List.map_toArray, List.map_cons, List.map_nil, hs, hx, hr]
  exact hK _ _ (h v' w' h2 h3)
theorem run_string_bytes (w : World) (src dst E : TypeId) (hs : P.underlying src = some (.slice E)) (he : P.underlying E = some (.int .u8)) (hd : P.underlying dst = some .string) (g off cap : Nat) (l : List UInt8)
    (hc : ∀ j x, l[j]? = some x → w.cell? ⟨g, off + j, none⟩ = some (.int .u8 (x.toNat : Int))) :
    (convert src dst (.slice (some ⟨g, off, none⟩) l.length cap)).run P w = .ok (.string ⟨l.toArray⟩) w := by
  rw [run_convert_bytes_arg (P := P) w src E hs he g off l.length cap (l.map fun x => (x.toNat : Int)) (by simp) (fun i hi => by
    rw [hc i l[i] (List.getElem?_eq_getElem hi)]
    simp [List.getD_eq_getElem?_getD, List.getElem?_map, List.getElem?_eq_getElem hi]) dst hd]
  congr 3
  unfold strOfNums
  rw [List.map_map]
  exact congrArg (fun z : List UInt8 => (⟨z.toArray⟩ : ByteArray)) ((List.map_congr_left (fun x _ => by simp)).trans (List.map_id l))
end
end Go.Proofs.YtpgfafpjfdbjmaaDoor
end
section
namespace Go.Proofs.YtpgfafpjfdbjmaaDoor
open Go.RowKit
set_option maxHeartbeats 2000000 in
set_option maxRecDepth 100000 in
theorem bWrite (B b : Nat) (l m : List UInt8) (ad : Addr) (cp : Nat) (w : World) (h : Bd B b l w) (hm : ∀ (j : Nat) (x : UInt8), m[j]? = some x → w.cell? (ad.add j) = some (.int .u8 (x.toNat : Int))) (had : ad.block ≠ b) (hm0 : m ≠ []) (hlen : l.length + m.length ≤ 140737488355328) (hB : B ≤ w.heap.size) :
    Calls Tryd.prog 74 #[.pointer (some ⟨b, 0, none⟩), .slice (some ad) m.length cp] w fun e w' => e = .returned (.tuple #[.int .i64 m.length, .nilIface]) ∧ Bd B b (l ++ m) w' ∧ Bf B b w w' := by
  obtain ⟨i0, hi, hz0, hz1, hz2⟩ := info8
  have HH := Lib.hid h
  have HL := Lib.hid hlen
  have HB := Lib.hid hB
  have HM := Lib.hid hm
  have H0 := Lib.hid hm0
  have HD := Lib.hid had
  clear h hlen hB hm hm0 had
  go_enter Tryd.func74, Tryd.ntmps74
  go_wp2_with (go_at_call 80; refine (bcc B b l _ HH.out).mono ?_)
  rintro e w1 ⟨rfl, ⟨v, hA⟩, hcf⟩
  obtain ⟨T, hT, hbk, hown, hne, h00⟩ := hA
  have HA : Hid (BdAt B b (.pointer (some ⟨b, 0, none⟩)) v l w1) := Lib.hid ⟨T, hT, hbk, hown, hne, h00⟩
  have HCF := Lib.hid hcf
  clear hcf h00
  have c0 : w1.cell? ⟨b, 0, none⟩ = some (.pointer (some ⟨b, 0, none⟩)) := by rw [Lib.cell_of_heap hbk]; rfl
  have c1 : w1.cell? ⟨b, 1, none⟩ = some v := by rw [Lib.cell_of_heap hbk]; rfl
  go_wp2_with (at_builtin; refine wpList_append_ownF _ rfl _ _ 59 rfl B 5 i0 (.int .u8 0) 1 1 (by kernel_rfl) hi hz0 hz1 hz2 rfl (by decide) _ _ _ rfl hown ad m.length cp (Lib.byteCells m) rfl (by rw [Lib.byteCells_length, Nat.mul_one]) ?c1 ?c2 ?c3 ?c4 ?c5 ?_)
  case c1 =>
    intro j u hj
    have hcell : ∃ x, m[j]? = some x ∧ u = .int .u8 (x.toNat : Int) := by
      simp only [Lib.byteCells, List.getElem?_map, Option.map_eq_some_iff] at hj
      obtain ⟨x, hx, rfl⟩ := hj
      exact ⟨x, hx, rfl⟩
    obtain ⟨x, hx, rfl⟩ := hcell
    have h1 := HM.out j x hx
    have hb : (ad.add j).block = ad.block := by unfold Addr.add; split <;> rfl
    exact (World.cell?_of_block (HCF.out.block _ (by rw [hb]; exact HD.out))).trans h1
  case c2 => intro u hu; simp only [Lib.byteCells, List.mem_map] at hu; obtain ⟨x, _, rfl⟩ := hu; rfl
  case c3 => have := HL.out; unfold maxLen; omega
  case c4 => have := HL.out; omega
  case c5 => have := HB.out; have := HCF.out.size; omega
  intro v' w2 hown' hgrow hv'
  have hlt : b < w1.heap.size := (Array.getElem?_eq_some_iff.1 hbk).1
  have hb2 : w2.heap[b]? = some (.cells #[.pointer (some ⟨b, 0, none⟩), v] T (0, 0)) := by
    rw [hgrow.block b (by omega) (fun e => hne e.symm)]
    exact hbk
  have d0 : w2.cell? ⟨b, 0, none⟩ = some (.pointer (some ⟨b, 0, none⟩)) := by rw [Lib.cell_of_heap hb2]; rfl
  have d1 : w2.cell? ⟨b, 1, none⟩ = some v := by rw [Lib.cell_of_heap hb2]; rfl
  have f1 : w2.frozen? ⟨b, 1, none⟩ = false := Lib.frozen_of_heap hb2 1
  have hm1 : m.length ≠ 0 := by have := H0.out; simpa using this
  have HP : Hid (BdAt B b (.pointer (some ⟨b, 0, none⟩)) v' (l ++ m) (w2.setCell ⟨b, 1, none⟩ v')) := Lib.hid (BdAt.put hT hb2 (by rw [List.length_append, Lib.byteCells_append]; exact hown') (by intro e; exact absurd (List.append_eq_nil_iff.1 e).2 H0.out))
  have HQ : Hid (Bf B b w (w2.setCell ⟨b, 1, none⟩ v')) := Lib.hid (Bf.write (l := l) HCF.out HB.out (Below.refl _ _) hown hgrow)
  obtain ⟨g, cap, rfl⟩ : ∃ g cap, v' = .slice (some ⟨g, 0, none⟩) (l.length + m.length) cap := by
    rcases hown'.2 with ⟨_, h0⟩ | ⟨g, cap, cur, fz, hv, _⟩
    · omega
    · exact ⟨g, cap, hv⟩
  clear hv' hgrow hown' hown hbk hb2 hm1
  go_wp2
  go_ret2
  exact ⟨rfl, ⟨_, _, .inr rfl, HP.out⟩, HQ.out⟩
end Go.Proofs.YtpgfafpjfdbjmaaDoor
end
section
namespace Go.Proofs.YtpgfafpjfdbjmaaDoor
def B (l : List UInt8) : ByteArray := ⟨l.toArray⟩
theorem B_data (l : List UInt8) : (B l).data.toList = l := rfl
theorem B_eta (s : ByteArray) : B s.data.toList = s := by cases s; simp [B]
theorem B_size (l : List UInt8) : (B l).size = l.length := by simp [B, ByteArray.size]
theorem B_toList (l : List UInt8) : (B l).toList = l := by rw [ByteArray.toList_eq]; rfl
theorem eq_of_data {s t : ByteArray} (h : s.data.toList = t.data.toList) : s = t := by rw [← B_eta s, h, B_eta]
theorem size_data (s : ByteArray) : s.data.toList.length = s.size := Array.length_toList
theorem B_append (a b : List UInt8) : B a ++ B b = B (a ++ b) := by
  apply eq_of_data
  rw [B_data]
  show (ByteArray.append (B a) (B b)).data.toList = _
  simp [B]
theorem B_extract (l : List UInt8) (a b : Nat) : (B l).extract a b = B ((l.drop a).take (b - a)) := by
  apply eq_of_data
  rw [Lib.extract_data, B_data, B_data]
theorem exB (s : ByteArray) : ∃ l, s = B l := ⟨s.data.toList, (B_eta s).symm⟩
end Go.Proofs.YtpgfafpjfdbjmaaDoor
end
