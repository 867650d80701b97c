/- PackLists, the plain part: numbers, and then texts, that are written one behind the other are read in that order; then it ends. -/
import Derived.Test.YtamjiofhfoedgaaQx6
import Derived.Test.YtamjiofhfoedgaaPackFn
namespace Go.Proofs.Ytamjiofhfoedgaa.Pure
open Go.RowKit Go.Proofs.Ytamjiofhfoedgaa.Q Go.Proofs.YtamjiofhfoedgaaW.PrintWords Go.Proofs.YtamjiofhfoedgaaW.PrintLast
/-- The numbers' bytes, the texts' bytes. -/
def ens (l : List Nat) : List UInt8 := (l.map enc).flatten
def txs (l : List (List UInt8)) : List UInt8 := (l.map txt).flatten
def ints (l : List Nat) : List Int := l.map fun n : Nat => (n : Int)
def strs (l : List (List UInt8)) : List ByteArray := l.map B
theorem rd_ints (l : List Nat) (i : Nat) (h : i < l.length) : rd (ints l) (i : Int) = (l.getD i 0 : Nat) := by
  unfold rd ints
  rw [Int.toNat_natCast, List.getD_eq_getElem?_getD, List.getD_eq_getElem?_getD, List.getElem?_map, List.getElem?_eq_getElem h]
  rfl
theorem rd_strs (l : List (List UInt8)) (i : Nat) (h : i < l.length) : rdOf ByteArray.empty (strs l) (i : Int) = B (l.getD i []) := by
  unfold rdOf strs
  rw [Int.toNat_natCast, List.getD_eq_getElem?_getD, List.getD_eq_getElem?_getD, List.getElem?_map, List.getElem?_eq_getElem h]
  rfl
theorem take_succ' {α : Type} (l : List α) (k : Nat) (d : α) (h : k < l.length) : l.take (k + 1) = l.take k ++ [l.getD k d] := by
  rw [List.take_succ_eq_append_getElem h, List.getD_eq_getElem?_getD, List.getElem?_eq_getElem h]; rfl
theorem drop_cons' {α : Type} (l : List α) (k : Nat) (d : α) (h : k < l.length) : l.drop k = l.getD k d :: l.drop (k + 1) := by
  rw [List.drop_eq_getElem_cons h, List.getD_eq_getElem?_getD, List.getElem?_eq_getElem h]; rfl
theorem ens_len (l : List Nat) (h : ∀ n ∈ l, n < 2 ^ 56) : (ens l).length ≤ 8 * l.length := by
  induction l with
  | nil => simp [ens]
  | cons a l ih =>
    have e : ens (a :: l) = enc a ++ ens l := by simp [ens]
    have := ih (fun n hn => h n (List.mem_cons_of_mem _ hn))
    have := enc_len8 (h a (List.mem_cons_self ..))
    rw [e, List.length_append, List.length_cons]; omega
theorem txs_len (l : List (List UInt8)) (h : ∀ s ∈ l, s.length ≤ 300) : (txs l).length ≤ 308 * l.length := by
  induction l with
  | nil => simp [txs]
  | cons a l ih =>
    have e : txs (a :: l) = enc a.length ++ a ++ txs l := by simp [txs, txt]
    have := ih (fun n hn => h n (List.mem_cons_of_mem _ hn))
    have h3 := h a (List.mem_cons_self ..)
    have := enc_len8 (m := a.length) (by omega)
    rw [e, List.length_append, List.length_append, List.length_cons]; omega
theorem end_ok : pack_Reader_End.f (B []) 0 = some (0, B [], 0) := rd4
variable (ns : List Nat) (ts : List (List UInt8))
theorem loop3 (hts : ∀ s ∈ ts, s.length ≤ 300) (hl : ts.length ≤ 20) (d : Nat) : ∀ (k j : Nat), j ≤ ts.length → ts.length - j = d → d + 30 < k → sluicegatelaw05_PackLists.l3 k (strs ts) (j : Int) (B (txs (ts.drop j))) 0 = some true := by
  induction d with
  | zero =>
    intro k j hj hd hk
    obtain ⟨k, rfl⟩ : ∃ m, k = m + 1 := ⟨k - 1, by omega⟩
    simp only [sluicegatelaw05_PackLists.l3]
    rw [if_neg (by simp [strs]; omega), List.drop_of_length_le (by omega), show txs [] = [] from rfl, end_ok]
    rfl
  | succ d ih =>
    intro k j hj hd hk
    obtain ⟨k, rfl⟩ : ∃ m, k = m + 1 := ⟨k - 1, by omega⟩
    have hlt : j < ts.length := by omega
    have hm : ts.getD j [] ∈ ts := by rw [List.getD_eq_getElem?_getD, List.getElem?_eq_getElem hlt]; exact List.getElem_mem hlt
    have h3 := hts _ hm
    have hlen := txs_len (ts.drop j) (fun s hs => hts s (List.mem_of_mem_drop hs))
    rw [List.length_drop] at hlen
    simp only [sluicegatelaw05_PackLists.l3]
    rw [if_pos (by simp [strs]; omega), rtext_f _ _ (by omega) (by omega)]
    have e : txs (ts.drop j) = txt (ts.getD j []) ++ txs (ts.drop (j + 1)) := by rw [drop_cons' ts j [] hlt]; simp [txs]
    rw [e, tkT_txt _ _ (by omega)]
    simp only [Option.bind_some]
    rw [if_pos (by omega), rd_strs ts j hlt, if_pos rfl, show wrap64 ((j : Int) + 1) = ((j + 1 : Nat) : Int) by unfold wrap64; omega]
    exact ih k (j + 1) (by omega) (by omega) (by omega)
theorem loop2 (hns : ∀ n ∈ ns, n < 2 ^ 56) (hn : ns.length ≤ 20) (hts : ∀ s ∈ ts, s.length ≤ 300) (hl : ts.length ≤ 20) (d : Nat) : ∀ (k j : Nat), j ≤ ns.length → ns.length - j = d → d + 60 < k →
    sluicegatelaw05_PackLists.l2 k (ints ns) (strs ts) (j : Int) (B (ens (ns.drop j) ++ txs ts)) 0 = some true := by
  have ht := txs_len ts hts
  induction d with
  | zero =>
    intro k j hj hd hk
    obtain ⟨k, rfl⟩ : ∃ m, k = m + 1 := ⟨k - 1, by omega⟩
    simp only [sluicegatelaw05_PackLists.l2]
    rw [if_neg (by simp [ints]; omega), List.drop_of_length_le (by omega), show ens [] = [] from rfl, List.nil_append]
    exact loop3 ts hts hl ts.length k 0 (by omega) (by omega) (by omega)
  | succ d ih =>
    intro k j hj hd hk
    obtain ⟨k, rfl⟩ : ∃ m, k = m + 1 := ⟨k - 1, by omega⟩
    have hlt : j < ns.length := by omega
    have hm : ns.getD j 0 ∈ ns := by rw [List.getD_eq_getElem?_getD, List.getElem?_eq_getElem hlt]; exact List.getElem_mem hlt
    have hlen := ens_len (ns.drop j) (fun s hs => hns s (List.mem_of_mem_drop hs))
    rw [List.length_drop] at hlen
    simp only [sluicegatelaw05_PackLists.l2]
    rw [if_pos (by simp [ints]; omega), rnum_f _ _ (by rw [List.length_append]; omega) (by omega)]
    have e : ens (ns.drop j) = enc (ns.getD j 0) ++ ens (ns.drop (j + 1)) := by rw [drop_cons' ns j 0 hlt]; simp [ens]
    rw [e, List.append_assoc, tk_zero _ _ (hns _ hm)]
    simp only [Option.bind_some]
    rw [if_pos (by omega), rd_ints ns j hlt, if_pos rfl, show wrap64 ((j : Int) + 1) = ((j + 1 : Nat) : Int) by unfold wrap64; omega]
    exact ih k (j + 1) (by omega) (by omega) (by omega)
theorem loop1 (hns : ∀ n ∈ ns, n < 2 ^ 56) (hn : ns.length ≤ 20) (hl : ts.length ≤ 20) (d : Nat) : ∀ (k j : Nat), j ≤ ts.length → ts.length - j = d → d + 90 < k → (∀ s ∈ ts.take j, s.length ≤ 300) →
    sluicegatelaw05_PackLists.l1 k (ints ns) (strs ts) (B (ens ns ++ txs (ts.take j))) (j : Int) = some true := by
  have hen := ens_len ns hns
  induction d with
  | zero =>
    intro k j hj hd hk hs
    obtain ⟨k, rfl⟩ : ∃ m, k = m + 1 := ⟨k - 1, by omega⟩
    simp only [sluicegatelaw05_PackLists.l1]
    rw [List.take_of_length_le (by omega)] at hs ⊢
    rw [if_neg (by simp [strs]; omega)]
    simp only [pack_Read.f, Option.bind_some]
    exact loop2 ns ts hns hn hs hl ns.length k 0 (by omega) (by omega) (by omega)
  | succ d ih =>
    intro k j hj hd hk hs
    obtain ⟨k, rfl⟩ : ∃ m, k = m + 1 := ⟨k - 1, by omega⟩
    have hlt : j < ts.length := by omega
    have hlen := txs_len (ts.take j) hs
    rw [List.length_take] at hlen
    simp only [sluicegatelaw05_PackLists.l1]
    rw [if_pos (by simp [strs]; omega), if_pos (by omega), rd_strs ts j hlt, B_size]
    by_cases h3 : ((ts.getD j []).length : Int) > 300
    · rw [if_pos h3]; rfl
    · have h8 := enc_len8 (m := (ts.getD j []).length) (by omega)
      rw [if_neg h3, text_f _ _ (by omega) (by omega)]
      simp only [Option.bind_some]
      rw [if_pos (by rw [B_size, B_size, List.length_append]; unfold txt; rw [List.length_append]; omega), B_append, show wrap64 ((j : Int) + 1) = ((j + 1 : Nat) : Int) by unfold wrap64; omega, List.append_assoc]
      have e : txs (ts.take j) ++ txt (ts.getD j []) = txs (ts.take (j + 1)) := by rw [take_succ' ts j [] hlt]; simp [txs]
      rw [e]
      refine ih k (j + 1) (by omega) (by omega) (by omega) (fun s hs' => ?_)
      rw [take_succ' ts j [] hlt] at hs'
      rcases List.mem_append.1 hs' with h | h
      · exact hs s h
      · rw [List.mem_singleton.1 h]; omega
theorem loop0 (l : List Int) (hl0 : l.length ≤ 20) (hl : ts.length ≤ 20) (d : Nat) : ∀ (k j : Nat) (ms : List Nat), j ≤ l.length → l.length - j = d → 2 * d + 120 < k → l.take j = ints ms → (∀ n ∈ ms, n < 2 ^ 56) →
    sluicegatelaw05_PackLists.l0 k l (strs ts) (B (ens ms)) (j : Int) = some true := by
  induction d with
  | zero =>
    intro k j ms hj hd hk he hm
    obtain ⟨k, rfl⟩ : ∃ m, k = m + 1 := ⟨k - 1, by omega⟩
    rw [List.take_of_length_le (by omega)] at he
    have hml : ms.length = l.length := by rw [he]; simp [ints]
    simp only [sluicegatelaw05_PackLists.l0]
    rw [if_neg (by omega)]
    have := loop1 ms ts hm (by omega) hl ts.length k 0 (by omega) (by omega) (by omega) (by simp)
    rw [List.take_zero, show txs [] = [] from rfl, List.append_nil] at this
    rw [he]
    exact this
  | succ d ih =>
    intro k j ms hj hd hk he hm
    obtain ⟨k, rfl⟩ : ∃ m, k = m + 1 + 1 := ⟨k - 2, by omega⟩
    have hlt : j < l.length := by omega
    have hml : ms.length = j := by
      have := congrArg List.length he
      rw [List.length_take] at this
      simp [ints] at this
      omega
    have hen := ens_len ms hm
    have kt : sluicegatelaw05_PackLists.j2 (k + 1) l (strs ts) (B (ens ms)) (j : Int) true = some true := by
      simp only [sluicegatelaw05_PackLists.j2]
      rw [if_pos trivial]; rfl
    simp only [sluicegatelaw05_PackLists.l0]
    rw [if_pos (by omega), if_pos (by omega)]
    by_cases h0 : rd l (j : Int) < 0
    · rw [if_pos h0]; exact kt
    rw [if_neg h0]
    cases h1 : decide (rd l (j : Int) > 72057594037927935) with
    | true => exact kt
    | false =>
      have h1 : ¬ rd l (j : Int) > 72057594037927935 := by simpa using h1
      obtain ⟨x, hx⟩ := Int.eq_ofNat_of_zero_le (a := rd l (j : Int)) (by omega)
      simp only [sluicegatelaw05_PackLists.j2]
      have h8 := enc_len8 (m := x) (by omega)
      rw [if_neg (by decide), if_pos (by omega), if_pos (by omega), hx, number_f x _ (by omega) (by omega)]
      simp only [Option.bind_some]
      rw [if_pos (by rw [B_size, B_size]; omega), B_append, show wrap64 ((j : Int) + 1) = ((j + 1 : Nat) : Int) by unfold wrap64; omega]
      have e : ens ms ++ enc x = ens (ms ++ [x]) := by simp [ens]
      rw [e]
      refine ih k (j + 1) (ms ++ [x]) (by omega) (by omega) (by omega) ?_ (fun n hn => ?_)
      · rw [take_succ' l j 0 hlt, he]
        have : l.getD j 0 = (x : Int) := by rw [← hx]; unfold rd; rw [Int.toNat_natCast]
        rw [this]
        simp [ints]
      · rcases List.mem_append.1 hn with h | h
        · exact hm n h
        · rw [List.mem_singleton.1 h]; omega
theorem PackLists : ∀ (l : List Int) (ss : List ByteArray), (∀ x_ ∈ l, (Lit.int .i64 x_).wf = true) → (∀ x_ ∈ ss, x_.size ≤ maxLen) → ∃ k, sluicegatelaw05_PackLists.f k l ss = some true := by
  intro l ss _ _
  obtain ⟨ts, rfl⟩ : ∃ ts, ss = strs ts := ⟨ss.map fun s => s.data.toList, by
    unfold strs
    rw [List.map_map]
    have : (B ∘ fun s : ByteArray => s.data.toList) = id := by funext s; exact B_eta s
    rw [this, List.map_id]⟩
  refine ⟨300 + 1, ?_⟩
  have kt : sluicegatelaw05_PackLists.j0 (300 + 1) l (strs ts) true = some true := by
    simp only [sluicegatelaw05_PackLists.j0]
    rw [if_pos trivial]; rfl
  unfold sluicegatelaw05_PackLists.f
  by_cases h0 : (l.length : Int) > 20
  · rw [if_pos h0]; exact kt
  rw [if_neg h0]
  cases h1 : decide (((strs ts).length : Int) > 20) with
  | true => exact kt
  | false =>
    have h1 : ¬ ((strs ts).length : Int) > 20 := by simpa using h1
    have hl : ts.length ≤ 20 := by simp [strs] at h1; omega
    simp only [sluicegatelaw05_PackLists.j0]
    rw [if_neg (by decide)]
    exact loop0 ts l (by omega) hl l.length 300 0 [] (by omega) (by omega) (by omega) (by simp [ints]) (by simp)
end Go.Proofs.Ytamjiofhfoedgaa.Pure
