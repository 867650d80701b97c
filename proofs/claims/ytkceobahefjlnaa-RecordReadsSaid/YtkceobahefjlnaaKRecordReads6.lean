/- Lemmas for the law RecordReads, merged out of several texts and cut down to what it names, by a program of this session (some of the first ones are of the words that print.sh wrote for this claim). -/
import Derived.Test.YtkceobahefjlnaaKRecordReads1
import Derived.Test.YtkceobahefjlnaaKRecordReads2
import Derived.Test.YtkceobahefjlnaaKRecordReads3
import Derived.Test.YtkceobahefjlnaaKRecordReads4
import Derived.Test.YtkceobahefjlnaaKRecordReads5
set_option linter.unusedVariables false
set_option linter.unusedSimpArgs false
section
/- The plain laws of records: what is written is read as it was; what is read was written. -/
namespace Go.Proofs.Ytkceobahefjlnaa
open Go.RowKit Q Go.Proofs.YtkceobahefjlnaaW.PrintWords Go.Proofs.YtkceobahefjlnaaW.PrintLast
set_option linter.unusedSimpArgs false
theorem enc2K (a b : Nat) : encK [a, b] 2 = enc a ++ enc b := by simp [encK]
theorem enc3K (a b c : Nat) : encK [a, b, c] 3 = enc a ++ enc b ++ enc c := by simp [encK]
def locsC : List S67 → List UInt8
  | [] => []
  | x :: r => enc x.f0.toNat ++ (enc x.f1.toNat ++ locsC r)
theorem locsC_append : ∀ a b : List S67, locsC (a ++ b) = locsC a ++ locsC b
  | [], _ => rfl
  | x :: r, b => by
    show enc x.f0.toNat ++ (enc x.f1.toNat ++ locsC (r ++ b)) = _
    rw [locsC_append r b]
    simp [locsC]
theorem locsT_C (l : List S67) : ∀ k : Nat, k ≤ l.length → locsT l k = locsC (l.take k)
  | 0, _ => rfl
  | k + 1, h => by
    have hk : k < l.length := h
    rw [locsT, locsT_C l k (by omega), List.take_add_one, List.getElem?_eq_getElem hk, locsC_append, enc2K]
    have : rd_T67 l k = l[k] := by
      unfold rd_T67
      simp [List.getD, List.getElem?_eq_getElem hk]
    rw [this]
    simp [locsC]
theorem locsT_all (l : List S67) : locsT l l.length = locsC l := by rw [locsT_C l _ (Nat.le_refl _), List.take_of_length_le (Nat.le_refl _)]
theorem locsN_back (r : List UInt8) : ∀ l : List S67, (∀ x ∈ l, (0 ≤ x.f0 ∧ x.f0 ≤ 11) ∧ (0 ≤ x.f1 ∧ x.f1 ≤ 47)) → locsN l.length (locsC l ++ r, 0) = (l, r, 0)
  | [], _ => rfl
  | x :: t, h => by
    have hx := h x (List.mem_cons_self ..)
    have ih := locsN_back r t (fun y hy => h y (List.mem_cons_of_mem _ hy))
    have e1 := nx_enc x.f0.toNat (enc x.f1.toNat ++ (locsC t ++ r)) (by omega)
    have e2 := nx_enc x.f1.toNat (locsC t ++ r) (by omega)
    have e0 : locsC (x :: t) ++ r = enc x.f0.toNat ++ (enc x.f1.toNat ++ (locsC t ++ r)) := by simp [locsC]
    show (⟨((nx (locsC (x :: t) ++ r, 0)).1 : Int), ((nx (nx (locsC (x :: t) ++ r, 0)).2).1 : Int)⟩ :: (locsN t.length (nx (nx (locsC (x :: t) ++ r, 0)).2).2).1, (locsN t.length (nx (nx (locsC (x :: t) ++ r, 0)).2).2).2) = _
    rw [e0, e1]
    simp only
    rw [e2]
    simp only
    rw [ih]
    simp only
    rw [Int.toNat_of_nonneg hx.1.1, Int.toNat_of_nonneg hx.2.1]
theorem locsN_inv : ∀ (n : Nat) (s : List UInt8 × Int), (locsN n s).2.2 = 0 → s.2 = 0 ∧ s.1 = locsC (locsN n s).1 ++ (locsN n s).2.1
  | 0, s, h => ⟨h, rfl⟩
  | n + 1, s, h => by
    obtain ⟨h1, e1⟩ := locsN_inv n (nx (nx s).2).2 h
    obtain ⟨h2, e2⟩ := nx_inv (nx s).2 h1
    obtain ⟨h3, e3⟩ := nx_inv s h2
    refine ⟨h3, ?_⟩
    rw [e3, e2, e1]
    show _ = locsC (⟨((nx s).1 : Int), ((nx (nx s).2).1 : Int)⟩ :: (locsN n (nx (nx s).2).2).1) ++ (locsN n (nx (nx s).2).2).2.1
    simp [locsC]
theorem tx_txt (s r : List UInt8) (h : s.length < 2 ^ 56) : tx (txt s ++ r, 0) = (s, r, 0) := by
  unfold tx
  simp only [if_true]
  exact tkT_txt s r h
theorem tx_inv2 (s : List UInt8 × Int) (h : (tx s).2.2 = 0) : s.2 = 0 ∧ s.1 = txt (tx s).1 ++ (tx s).2.1 := by
  unfold tx at h ⊢
  by_cases hs : s.2 = 0
  · rw [if_pos hs] at h ⊢
    exact ⟨hs, (tkT_inv (l := s.1) (s := (tkT s.1).1) (r := (tkT s.1).2.1) (by rw [← h])).1⟩
  · rw [if_neg hs] at h
    exact absurd h hs
theorem volS_back {i g n : Int} {l : List S67} (h : VolOk i g n l) (r : List UInt8) : volS (enc i.toNat ++ (enc g.toNat ++ (enc n.toNat ++ (locsC l ++ r))), 0) = ((i, g, n, l), r, 0) := by
  have hi := h.i
  have hg := h.g
  have hn := h.n
  have e1 := nx_enc i.toNat (enc g.toNat ++ (enc n.toNat ++ (locsC l ++ r))) (by omega)
  have e2 := nx_enc g.toNat (enc n.toNat ++ (locsC l ++ r)) (by omega)
  have e3 := nx_enc n.toNat (locsC l ++ r) (by omega)
  have e4 := locsN_back r l (by
    intro x hx
    obtain ⟨k, hk, rfl⟩ := List.getElem_of_mem hx
    have := h.locs k (by have := h.nine; omega)
    have hr : rd_T67 l k = l[k] := by
      unfold rd_T67
      simp [List.getD, List.getElem?_eq_getElem hk]
    rw [hr] at this
    exact this)
  rw [h.nine] at e4
  unfold volS
  rw [e1]
  simp only
  rw [e2]
  simp only
  rw [e3]
  simp only
  rw [e4]
  simp only
  rw [Int.toNat_of_nonneg hi.1, Int.toNat_of_nonneg hg.1, Int.toNat_of_nonneg hn.1]
theorem volS_inv (s : List UInt8 × Int) (h : (volS s).2.2 = 0) : s.2 = 0 ∧ s.1 = enc (volS s).1.1.toNat ++ (enc (volS s).1.2.1.toNat ++ (enc (volS s).1.2.2.1.toNat ++ (locsC (volS s).1.2.2.2 ++ (volS s).2.1))) := by
  obtain ⟨h1, e1⟩ := locsN_inv 9 (nx (nx (nx s).2).2).2 h
  obtain ⟨h2, e2⟩ := nx_inv _ h1
  obtain ⟨h3, e3⟩ := nx_inv _ h2
  obtain ⟨h4, e4⟩ := nx_inv _ h3
  refine ⟨h4, ?_⟩
  rw [e4, e3, e2, e1]
  rfl
theorem end_inv {s : List UInt8 × Int} (h : endE s = 0) : s.1 = [] ∧ s.2 = 0 := by
  unfold endE at h
  by_cases hs : s.1 = []
  · rw [if_pos hs] at h
    exact ⟨hs, h⟩
  · rw [if_neg hs] at h
    cases h
theorem rst_inv (s : List UInt8 × Int) (h : (rst s).2.2 = 0) : s.2 = 0 ∧ s.1 = (rst s).1 := by
  unfold rst at h ⊢
  by_cases hs : s.2 = 0
  · rw [if_pos hs]
    exact ⟨hs, rfl⟩
  · rw [if_neg hs] at h
    exact absurd h hs
/-! Back, and the other way. -/
theorem back_0 (q0 q2 q3 q4 : Int) (l : List S67) (q6 : ByteArray) (q7 q8 q9 : Int) (q10 q11 : ByteArray) (q12 q13 : Int) (h : chkR (⟨q0, 0, q2, q3, q4, l, q6, q7, q8, q9, q10, q11, q12, q13⟩ : RecP) = 0) : recT (⟨q0, 0, q2, q3, q4, l, q6, q7, q8, q9, q10, q11, q12, q13⟩ : RecP) = [83, 74] ++ (enc q0.toNat ++ (enc 0 ++ (enc q2.toNat ++ (enc q3.toNat ++ (enc q4.toNat ++ (locsC l ++ (txt q6.data.toList ++ (enc q8.toNat ++ (enc q9.toNat ++ q10.data.toList))))))))) ∧ recS (enc q0.toNat ++ (enc 0 ++ (enc q2.toNat ++ (enc q3.toNat ++ (enc q4.toNat ++ (locsC l ++ (txt q6.data.toList ++ (enc q8.toNat ++ (enc q9.toNat ++ q10.data.toList))))))))) = ((⟨q0, 0, q2, q3, q4, l, q6, q7, q8, q9, q10, q11, q12, q13⟩ : RecP), [], 0) := by
  obtain ⟨h0, hv, hk, h7, h8, h9, h10, hn⟩ := chk0_0 q0 q2 q3 q4 l q6 q7 q8 q9 q10 q11 q12 q13 h
  refine ⟨?_, ?_⟩
  · simp [recT, headT, volT, enc2K, enc3K, locsT_all]
  unfold recS
  rw [nx_enc _ _ (by omega)]
  simp only
  rw [nx_enc _ _ (by decide)]
  simp only
  unfold recK
  rw [if_neg (by decide), if_pos rfl]
  rw [volS_back hv]
  simp only
  rw [tx_txt _ _ (by have := (key_ok hk).1; omega)]
  simp only
  have hvn := hv.n
  rw [nx_enc _ _ (by omega)]
  simp only
  rw [nx_enc _ _ (by omega)]
  simp only [rst, if_true]
  rw [← hn]
  simp [namedP, B_eta, Int.toNat_of_nonneg h0.1, Int.toNat_of_nonneg h8.1, Int.toNat_of_nonneg h9.1, h7]
theorem back_1 (q0 q2 q3 q4 : Int) (l : List S67) (q6 : ByteArray) (q7 q8 q9 : Int) (q10 q11 : ByteArray) (q12 q13 : Int) (h : chkR (⟨q0, 1, q2, q3, q4, l, q6, q7, q8, q9, q10, q11, q12, q13⟩ : RecP) = 0) : recT (⟨q0, 1, q2, q3, q4, l, q6, q7, q8, q9, q10, q11, q12, q13⟩ : RecP) = [83, 74] ++ (enc q0.toNat ++ (enc 1 ++ (txt q11.data.toList ++ []))) ∧ recS (enc q0.toNat ++ (enc 1 ++ (txt q11.data.toList ++ []))) = ((⟨q0, 1, q2, q3, q4, l, q6, q7, q8, q9, q10, q11, q12, q13⟩ : RecP), [], 0) := by
  obtain ⟨h0, hk, hn⟩ := chk0_1 q0 q2 q3 q4 l q6 q7 q8 q9 q10 q11 q12 q13 h
  refine ⟨?_, ?_⟩
  · simp [recT, headT, volT, enc2K, enc3K, locsT_all]
  unfold recS
  rw [nx_enc _ _ (by omega)]
  simp only
  rw [nx_enc _ _ (by decide)]
  simp only
  unfold recK
  rw [if_pos rfl]
  rw [tx_txt _ _ (by have := (key_ok hk).1; omega)]
  simp only
  rw [← hn]
  simp [namedP, B_eta, Int.toNat_of_nonneg h0.1]
theorem back_2 (q0 q2 q3 q4 : Int) (l : List S67) (q6 : ByteArray) (q7 q8 q9 : Int) (q10 q11 : ByteArray) (q12 q13 : Int) (h : chkR (⟨q0, 2, q2, q3, q4, l, q6, q7, q8, q9, q10, q11, q12, q13⟩ : RecP) = 0) : recT (⟨q0, 2, q2, q3, q4, l, q6, q7, q8, q9, q10, q11, q12, q13⟩ : RecP) = [83, 74] ++ (enc q0.toNat ++ (enc 2 ++ (enc q2.toNat ++ (enc q3.toNat ++ (enc q4.toNat ++ (locsC l ++ ([]))))))) ∧ recS (enc q0.toNat ++ (enc 2 ++ (enc q2.toNat ++ (enc q3.toNat ++ (enc q4.toNat ++ (locsC l ++ ([]))))))) = ((⟨q0, 2, q2, q3, q4, l, q6, q7, q8, q9, q10, q11, q12, q13⟩ : RecP), [], 0) := by
  obtain ⟨h0, hv, hn⟩ := chk0_2 q0 q2 q3 q4 l q6 q7 q8 q9 q10 q11 q12 q13 h
  refine ⟨?_, ?_⟩
  · simp [recT, headT, volT, enc2K, enc3K, locsT_all]
  unfold recS
  rw [nx_enc _ _ (by omega)]
  simp only
  rw [nx_enc _ _ (by decide)]
  simp only
  unfold recK
  rw [if_neg (by decide), if_neg (by decide), if_pos rfl]
  rw [volS_back hv]
  rw [← hn]
  simp [namedP, Int.toNat_of_nonneg h0.1]
theorem back_3 (q0 q2 q3 q4 : Int) (l : List S67) (q6 : ByteArray) (q7 q8 q9 : Int) (q10 q11 : ByteArray) (q12 q13 : Int) (h : chkR (⟨q0, 3, q2, q3, q4, l, q6, q7, q8, q9, q10, q11, q12, q13⟩ : RecP) = 0) : recT (⟨q0, 3, q2, q3, q4, l, q6, q7, q8, q9, q10, q11, q12, q13⟩ : RecP) = [83, 74] ++ (enc q0.toNat ++ (enc 3 ++ (enc q2.toNat ++ (enc q3.toNat ++ (enc q4.toNat ++ (locsC l ++ (enc q12.toNat ++ (enc q13.toNat ++ [])))))))) ∧ recS (enc q0.toNat ++ (enc 3 ++ (enc q2.toNat ++ (enc q3.toNat ++ (enc q4.toNat ++ (locsC l ++ (enc q12.toNat ++ (enc q13.toNat ++ [])))))))) = ((⟨q0, 3, q2, q3, q4, l, q6, q7, q8, q9, q10, q11, q12, q13⟩ : RecP), [], 0) := by
  obtain ⟨h0, hv, hf, ht, _, hn⟩ := chk0_3 q0 q2 q3 q4 l q6 q7 q8 q9 q10 q11 q12 q13 h
  refine ⟨?_, ?_⟩
  · simp [recT, headT, volT, enc2K, enc3K, locsT_all]
  unfold recS
  rw [nx_enc _ _ (by omega)]
  simp only
  rw [nx_enc _ _ (by decide)]
  simp only
  unfold recK
  rw [if_neg (by decide), if_neg (by decide), if_neg (by decide), if_pos rfl]
  rw [volS_back hv]
  simp only
  rw [nx_enc _ _ (by omega)]
  simp only
  rw [nx_enc _ _ (by omega)]
  rw [← hn]
  simp [namedP, Int.toNat_of_nonneg h0.1, Int.toNat_of_nonneg hf.1, Int.toNat_of_nonneg ht.1]
theorem recS_back (r : RecP) (h : chkR r = 0) : ∃ p, recT r = [83, 74] ++ p ∧ recS p = (r, [], 0) := by
  have hk := kind_chk r h
  obtain ⟨q0, q1, q2, q3, q4, l, q6, q7, q8, q9, q10, q11, q12, q13⟩ := r
  rcases hk with e | e | e | e
  · change q1 = 0 at e; subst e; exact ⟨_, back_0 q0 q2 q3 q4 l q6 q7 q8 q9 q10 q11 q12 q13 h⟩
  · change q1 = 1 at e; subst e; exact ⟨_, back_1 q0 q2 q3 q4 l q6 q7 q8 q9 q10 q11 q12 q13 h⟩
  · change q1 = 2 at e; subst e; exact ⟨_, back_2 q0 q2 q3 q4 l q6 q7 q8 q9 q10 q11 q12 q13 h⟩
  · change q1 = 3 at e; subst e; exact ⟨_, back_3 q0 q2 q3 q4 l q6 q7 q8 q9 q10 q11 q12 q13 h⟩
theorem cutJ_SJ (p : List UInt8) : cutJ ([83, 74] ++ p) = (p, true) := by
  unfold cutJ
  rw [if_pos (by simp)]
  rfl
theorem recR_back (r : RecP) (h : chkR r = 0) : recR (sealL (recT r)) = (r, 0) := by
  obtain ⟨p, hp, hs⟩ := recS_back r h
  have hu : openL (sealL (recT r)) = (B (recT r), 0) := openL_seal _
  have hc : cutJ (openL (sealL (recT r))).1.data.toList = (p, true) := by
    rw [hu]
    show cutJ (recT r) = _
    rw [hp, cutJ_SJ]
  unfold recR
  rw [if_pos (show (openL (sealL (recT r))).2 = 0 by rw [hu])]
  rw [if_pos (show _ ∧ _ ∧ _ from ⟨by rw [hc], by rw [hc]; simp only; rw [hs]; rfl, by rw [hc]; simp only; rw [hs]; exact h⟩), hc]
  simp only
  rw [hs]
def recK0 (q : Nat) (s : List UInt8 × Int) : RecP × List UInt8 × Int := (⟨q, (0 : Nat), (volS s).1.1, (volS s).1.2.1, (volS s).1.2.2.1, (volS s).1.2.2.2, B (tx (volS s).2).1, (volS s).1.1, (nx (tx (volS s).2).2).1, (nx (nx (tx (volS s).2).2).2).1, B (rst (nx (nx (tx (volS s).2).2).2).2).1, ⟨#[]⟩, 0, 0⟩, (rst (nx (nx (tx (volS s).2).2).2).2).2)
theorem recK_0 (q : Nat) (s : List UInt8 × Int) : recK q 0 s = recK0 q s := by
  unfold recK
  rw [if_neg (by decide), if_pos rfl]
  rfl
theorem recK_1 (q : Nat) (s : List UInt8 × Int) : recK q 1 s = (⟨q, (1 : Nat), 0, 0, 0, [], ⟨#[]⟩, 0, 0, 0, ⟨#[]⟩, B (tx s).1, 0, 0⟩, (tx s).2) := by
  unfold recK
  rw [if_pos rfl]
theorem recK_2 (q : Nat) (s : List UInt8 × Int) : recK q 2 s = (⟨q, (2 : Nat), (volS s).1.1, (volS s).1.2.1, (volS s).1.2.2.1, (volS s).1.2.2.2, ⟨#[]⟩, 0, 0, 0, ⟨#[]⟩, ⟨#[]⟩, 0, 0⟩, (volS s).2) := by
  unfold recK
  rw [if_neg (by decide), if_neg (by decide), if_pos rfl]
theorem recK_3 (q : Nat) (s : List UInt8 × Int) : recK q 3 s = (⟨q, (3 : Nat), (volS s).1.1, (volS s).1.2.1, (volS s).1.2.2.1, (volS s).1.2.2.2, ⟨#[]⟩, 0, 0, 0, ⟨#[]⟩, ⟨#[]⟩, (nx (volS s).2).1, (nx (nx (volS s).2).2).1⟩, (nx (nx (volS s).2).2).2) := by
  unfold recK
  rw [if_neg (by decide), if_neg (by decide), if_neg (by decide), if_pos rfl]
theorem recK_inv (q d : Nat) (s : List UInt8 × Int) (he : endE (recK q d s).2 = 0) (hd : (recK q d s).1.kind = d) (hc : chkR (recK q d s).1 = 0) : s.2 = 0 ∧ recT (recK q d s).1 = [83, 74] ++ (enc q ++ (enc d ++ s.1)) := by
  have hk := kind_chk _ hc
  rw [hd] at hk
  obtain ⟨e1, e2⟩ := end_inv he
  clear hd
  have hz : d = 0 ∨ d = 1 ∨ d = 2 ∨ d = 3 := by omega
  clear hk
  clear he hc
  rcases hz with rfl | rfl | rfl | rfl
  · rw [recK_0] at e1 e2 ⊢
    obtain ⟨a5, b5⟩ := rst_inv (nx (nx (tx (volS s).2).2).2).2 e2
    obtain ⟨a4, b4⟩ := nx_inv (nx (tx (volS s).2).2).2 a5
    obtain ⟨a3, b3⟩ := nx_inv (tx (volS s).2).2 a4
    obtain ⟨a2, b2⟩ := tx_inv2 (volS s).2 a3
    obtain ⟨a1, b1⟩ := volS_inv s a2
    refine ⟨a1, ?_⟩
    rw [b1, b2, b3, b4, b5]
    clear a1 a2 a3 a4 a5 b1 b2 b3 b4 b5 e1 e2
    unfold recK0
    simp only [recT, headT, volT, enc2K, enc3K, locsT_all, B_data, Int.toNat_natCast]
    rw [if_neg (by decide), if_pos (by decide)]
    simp only [List.append_assoc]
  · rw [recK_1] at e1 e2 ⊢
    obtain ⟨a2, b2⟩ := tx_inv2 s e2
    refine ⟨a2, ?_⟩
    simp only at e1
    rw [b2, e1]
    simp only [recT, headT, volT, enc2K, enc3K, locsT_all, B_data, Int.toNat_natCast]
    rw [if_pos (by decide)]
    simp only [List.append_assoc, List.append_nil]
  · rw [recK_2] at e1 e2 ⊢
    obtain ⟨a1, b1⟩ := volS_inv s e2
    refine ⟨a1, ?_⟩
    simp only at e1
    rw [b1, e1]
    simp only [recT, headT, volT, enc2K, enc3K, locsT_all, B_data, Int.toNat_natCast]
    rw [if_neg (by decide), if_neg (by decide), if_neg (by decide)]
    simp only [List.append_assoc, List.append_nil]
  · rw [recK_3] at e1 e2 ⊢
    obtain ⟨a4, b4⟩ := nx_inv (nx (volS s).2).2 e2
    obtain ⟨a3, b3⟩ := nx_inv (volS s).2 a4
    obtain ⟨a1, b1⟩ := volS_inv s a3
    refine ⟨a1, ?_⟩
    simp only at e1
    rw [b1, b3, b4, e1]
    simp only [recT, headT, volT, enc2K, enc3K, locsT_all, B_data, Int.toNat_natCast]
    rw [if_neg (by decide), if_neg (by decide), if_pos (by decide)]
    simp only [List.append_assoc, List.append_nil]
theorem recS_inv (l : List UInt8) (he : endE (recS l).2 = 0) (hc : chkR (recS l).1 = 0) : recT (recS l).1 = [83, 74] ++ l := by
  have hd : (recS l).1.kind = ((nx (nx (l, 0)).2).1 : Int) := by
    unfold recS recK
    split
    · rfl
    · split
      · rfl
      · split
        · rfl
        · split <;> rfl
  obtain ⟨h1, e1⟩ := recK_inv _ _ _ he hd hc
  obtain ⟨h2, e2⟩ := nx_inv (nx (l, 0)).2 h1
  obtain ⟨_, e3⟩ := nx_inv (l, 0) h2
  have e3' : l = enc (nx (l, 0)).1 ++ (nx (l, 0)).2.1 := e3
  show recT (recK _ _ _).1 = _
  rw [e1, ← e2, ← e3']
theorem recR_inv (m : List UInt8) (h : (recR m).2 = 0) : recR m = ((recR m).1, 0) ∧ m = sealL (recT (recR m).1) ∧ chkR (recR m).1 = 0 := by
  unfold recR at h ⊢
  by_cases ho : (openL m).2 = 0
  · rw [if_pos ho] at h ⊢
    by_cases hc : (cutJ (openL m).1.data.toList).2 = true ∧ endE (recS (cutJ (openL m).1.data.toList).1).2 = 0 ∧ chkR (recS (cutJ (openL m).1.data.toList).1).1 = 0
    · rw [if_pos hc]
      refine ⟨rfl, ?_, hc.2.2⟩
      have hi := recS_inv _ hc.2.1 hc.2.2
      simp only
      rw [hi]
      rcases openL_cases m with ⟨_, e⟩ | ⟨_, _, e⟩ | ⟨u, hu, e⟩
      · rw [e] at ho; cases ho
      · rw [e] at ho; cases ho
      · have hc1 := hc.1
        rw [e] at hc1 ⊢
        simp only [B_data] at hc1 ⊢
        rw [hu]
        congr 1
        unfold cutJ at hc1 ⊢
        by_cases h2 : u.take 2 = [83, 74]
        · rw [if_pos h2]
          simp only
          rw [← h2, List.take_append_drop]
        · rw [if_neg h2] at hc1
          cases hc1
    · rw [if_neg hc] at h
      cases h
  · rw [if_neg ho] at h
    exact absurd h ho
end Go.Proofs.Ytkceobahefjlnaa
end
section
/- record.Read, in the form that the walks by hand take. -/
namespace Go.Proofs.Ytkceobahefjlnaa
open Go.RowKit Q Go.Proofs.YtkceobahefjlnaaW.PrintWords Go.Proofs.YtkceobahefjlnaaW.PrintLast Go.Proofs.YtkceobahefjlnaaW.PrintMore
theorem recread_calls (m : List UInt8) (hm : m.length ≤ 140737488355328) (w : World) : Calls Try.prog 19 #[.string (B m)] w fun e w' => ∃ (A : Option Addr) (c : Nat), e = .returned (.tuple #[.agg #[.int .i64 (recR m).1.seq, .int .i64 (recR m).1.kind, .int .i64 (recR m).1.id, .int .i64 (recR m).1.gen, .int .i64 (recR m).1.len, .slice A (recR m).1.locs.length c, .string (recR m).1.ekey, .int .i64 (recR m).1.evol, .int .i64 (recR m).1.eoff, .int .i64 (recR m).1.elen, .string (recR m).1.dig, .string (recR m).1.key, .int .i64 (recR m).1.frm, .int .i64 (recR m).1.til], .int .i64 (recR m).2]) ∧ Kd.C k67 w' A (recR m).1.locs.length (recR m).1.locs ∧ (recR m).1.locs.length ≤ c ∧ Below w.heap.size w w' := by
  refine (record_Read.calls 60 (B m) _ _ _ _ _ _ _ _ _ _ _ _ _ _ _ w (recread_f m hm)).mono ?_
  rintro e w' ⟨v, rfl, hR, hB⟩
  obtain ⟨A, c, rfl⟩ := Kd.R_slice hR
  have h2 := Kd.R_reads' hR
  exact ⟨A, c, rfl, h2.2.2, h2.2.1, hB⟩
end Go.Proofs.Ytkceobahefjlnaa
end
section
/- sluicegateref11.Check: its walk, kind by kind. -/
namespace Go.Proofs.Ytkceobahefjlnaa
open Go.RowKit Q Go.Proofs.YtkceobahefjlnaaW.PrintWords Go.Proofs.YtkceobahefjlnaaW.PrintLast Go.Proofs.YtkceobahefjlnaaW.PrintMore
set_option linter.unusedSimpArgs false
theorem rvolc (V G N : Int) (A : Option Addr) (c : Nat) (l : List S67) (w : World) (hr : Kd.C k67 w A l.length l) (hc : l.length ≤ c) : Calls Try.prog 17 #[.agg #[.int .i64 V, .int .i64 G, .int .i64 N, .slice A l.length c]] w fun e w' => e = .returned (.bool (volP V G N l)) ∧ Below w.heap.size w w' :=
  sluicegateref11_Volume.calls 120 V G N A c l _ w hr hc (rvol_f V G N l 120 (Nat.le_refl _))
theorem keyc (s : ByteArray) (hs : s.size ≤ 140737488355328) (w : World) : Calls Try.prog 34 #[.string s] w fun e w' => e = .returned (.bool (plainK s.data.toList)) ∧ Below w.heap.size w w' := by
  have h := key_f s.data.toList (by rw [size_data]; exact hs) (s.size + 1) (by rw [size_data]; omega)
  rw [B_eta] at h
  refine (sluicegateref08_Key.calls (s.size + 1) s _ w h).mono ?_
  rintro e w' ⟨rfl, hd⟩
  exact ⟨rfl, hd.below⟩
theorem numc (n : Int) (w : World) : Calls Try.prog 35 #[.int .i64 n] w fun e w' => e = .returned (.bool (inB n 1099511627776)) ∧ Below w.heap.size w w' := by
  refine (sluicegateref11_number.calls n _ w (num_f n)).mono ?_
  rintro e w' ⟨rfl, hd⟩
  exact ⟨rfl, hd.below⟩
theorem vol_len {id gen len : Int} {l : List S67} (h : volP id gen len l = true) : 0 ≤ len ∧ len ≤ 384 := by
  unfold volP at h
  simp only [Bool.and_eq_true] at h
  have := h.2.2.2.1
  unfold inB at this
  simp only [Bool.and_eq_true, decide_eq_true_eq] at this
  exact this
theorem rform_0 (q0 q2 q3 q4 : Int) (A : Option Addr) (c : Nat) (l : List S67) (q6 : ByteArray) (q7 q8 q9 : Int) (q10 q11 : ByteArray) (q12 q13 : Int) : chkR (⟨q0, 0, q2, q3, q4, l, q6, q7, q8, q9, q10, q11, q12, q13⟩ : RecP) = (if decide (q0 < 0) = true then 1 else (if decide (63 < q0) = true then 1 else (if volR (⟨q0, 0, q2, q3, q4, l, q6, q7, q8, q9, q10, q11, q12, q13⟩ : RecP) = true then (if plainK q6.data.toList = true then (if (q7 == q2) = true then (if decide (q8 < 0) = true then 1 else (if decide (q9 < 0) = true then 1 else (if decide (384 < q8) = true then 1 else (if decide (384 < q9) = true then 1 else (if decide (q4 < wrap64 (q8 + q9)) = true then 1 else (if ((q10.size : Int) == 32) = true then (finP (⟨q0, 0, q2, q3, q4, l, q6, q7, q8, q9, q10, q11, q12, q13⟩ : RecP)) else 1)))))) else 1) else 11) else 1))) := by
  rw [show chkR (⟨q0, 0, q2, q3, q4, l, q6, q7, q8, q9, q10, q11, q12, q13⟩ : RecP) = if inB q0 63 = true then (if volR (⟨q0, 0, q2, q3, q4, l, q6, q7, q8, q9, q10, q11, q12, q13⟩ : RecP) = true then (if plainK q6.data.toList = true then (if (q7 == q2) = true then (if inB q8 q4 = true then (if inB q9 (wrap64 (q4 - q8)) = true then (if ((q10.size : Int) == 32) = true then finP (⟨q0, 0, q2, q3, q4, l, q6, q7, q8, q9, q10, q11, q12, q13⟩ : RecP) else 1) else 1) else 1) else 1) else 11) else 1) else 1 from rfl]
  generalize finP (⟨q0, 0, q2, q3, q4, l, q6, q7, q8, q9, q10, q11, q12, q13⟩ : RecP) = z
  have hv : volR (⟨q0, 0, q2, q3, q4, l, q6, q7, q8, q9, q10, q11, q12, q13⟩ : RecP) = true → 0 ≤ q4 ∧ q4 ≤ 384 := fun h => vol_len h
  generalize volR (⟨q0, 0, q2, q3, q4, l, q6, q7, q8, q9, q10, q11, q12, q13⟩ : RecP) = v at hv
  generalize plainK q6.data.toList = p
  generalize (q7 == q2) = e1
  generalize ((q10.size : Int) == 32) = e2
  cases v <;> cases p <;> cases e1 <;> cases e2 <;> simp only [inB, wrap64, Bool.and_eq_true, decide_eq_true_eq, Bool.false_eq_true, if_false, if_true, true_implies, forall_const] at * <;> (repeat' split) <;> first | rfl | (exfalso; omega)
set_option maxRecDepth 100000 in
set_option maxHeartbeats 4000000 in
theorem refchk_0 (q0 q2 q3 q4 : Int) (A : Option Addr) (c : Nat) (l : List S67) (q6 : ByteArray) (q7 q8 q9 : Int) (q10 q11 : ByteArray) (q12 q13 : Int) (w : World) (hr : Kd.C k67 w A l.length l) (hl : l.length ≤ 1000) (hc : l.length ≤ c) (hs6 : q6.size ≤ 140737488355328) (hs11 : q11.size ≤ 140737488355328) : Calls Try.prog 15 #[.agg #[.int .i64 q0, .int .i64 0, .int .i64 q2, .int .i64 q3, .int .i64 q4, (.slice A l.length c), .string q6, .int .i64 q7, .int .i64 q8, .int .i64 q9, .string q10, .string q11, .int .i64 q12, .int .i64 q13]] w fun e w' => e = .returned (.int .i64 (chkR (⟨q0, 0, q2, q3, q4, l, q6, q7, q8, q9, q10, q11, q12, q13⟩ : RecP))) ∧ Below w.heap.size w w' := by
  have hu0 := Try.underlying28
  have hu1 := Try.underlying34
  have hu2 := Try.underlying24
  have hu3 := Try.underlying26
  have hu4 := Try.underlying67
  have HF := Lib.hid (rform_0 q0 q2 q3 q4 A c l q6 q7 q8 q9 q10 q11 q12 q13)
  have HC := Lib.hid hr
  have HL := Lib.hid hl
  have HCC := Lib.hid hc
  have HS6 := Lib.hid hs6
  have HS11 := Lib.hid hs11
  clear hr hl hc hs6 hs11
  have HB : Aside0 (Below w.heap.size w (w.alloc (.cells #[.int .i64 q0, .int .i64 0, .int .i64 q2, .int .i64 q3, .int .i64 q4, (.slice A l.length c), .string q6, .int .i64 q7, .int .i64 q8, .int .i64 q9, .string q10, .string q11, .int .i64 q12, .int .i64 q13] 28))) := ⟨below_alloc (Below.refl _ _) _⟩
  have HR : Aside0 (Blk (w.alloc (.cells #[.int .i64 q0, .int .i64 0, .int .i64 q2, .int .i64 q3, .int .i64 q4, (.slice A l.length c), .string q6, .int .i64 q7, .int .i64 q8, .int .i64 q9, .string q10, .string q11, .int .i64 q12, .int .i64 q13] 28)) w.heap.size #[.int .i64 q0, .int .i64 0, .int .i64 q2, .int .i64 q3, .int .i64 q4, (.slice A l.length c), .string q6, .int .i64 q7, .int .i64 q8, .int .i64 q9, .string q10, .string q11, .int .i64 q12, .int .i64 q13] 28) := ⟨Blk.new w _ _⟩
  obtain ⟨d0, d1, d2, d3, d4, d5, d6, d7, d8, d9, d10, d11, d12, d13⟩ := cells14 HR.out
  go_enter Try.func15, Try.ntmps15
  cases h0 : decide (q0 < 0) with
  | true =>
    go_wp2_with fail
    go_ret
    exact ⟨by rw [HF.out, if_pos h0]; rfl, HB.out⟩
  | false =>
    cases h1 : decide (63 < q0) with
    | true =>
      go_wp2_with fail
      go_ret
      exact ⟨by rw [HF.out, if_neg (by rw [h0]; decide), if_pos h1]; rfl, HB.out⟩
    | false =>
      cases h2 : volR (⟨q0, 0, q2, q3, q4, l, q6, q7, q8, q9, q10, q11, q12, q13⟩ : RecP) with
      | false =>
        go_wp2_with fail
        clear d0 d1 d2 d3 d4 d5 d6 d7 d8 d9 d10 d11 d12 d13
        refine (rvolc q2 q3 q4 A c l _ (Kd.C_below HC.out HB.out) HCC.out).mono ?_
        rintro e w1 ⟨rfl, b1⟩
        rw [show volP q2 q3 q4 l = false from h2]
        replace HB := Aside0.mk (below2 HB.out HB.out.size b1)
        replace HR := Aside0.mk (HR.out.keep b1)
        clear b1
        obtain ⟨d0, d1, d2, d3, d4, d5, d6, d7, d8, d9, d10, d11, d12, d13⟩ := cells14 HR.out
        go_wp2_with fail
        go_ret
        exact ⟨by rw [HF.out, if_neg (by rw [h0]; decide), if_neg (by rw [h1]; decide), if_neg (by rw [h2]; decide)]; rfl, HB.out⟩
      | true =>
        go_wp2_with fail
        clear d0 d1 d2 d3 d4 d5 d6 d7 d8 d9 d10 d11 d12 d13
        refine (rvolc q2 q3 q4 A c l _ (Kd.C_below HC.out HB.out) HCC.out).mono ?_
        rintro e w1 ⟨rfl, b1⟩
        rw [show volP q2 q3 q4 l = true from h2]
        replace HB := Aside0.mk (below2 HB.out HB.out.size b1)
        replace HR := Aside0.mk (HR.out.keep b1)
        clear b1
        obtain ⟨d0, d1, d2, d3, d4, d5, d6, d7, d8, d9, d10, d11, d12, d13⟩ := cells14 HR.out
        cases h3 : plainK q6.data.toList with
        | false =>
          go_wp2_with fail
          clear d0 d1 d2 d3 d4 d5 d6 d7 d8 d9 d10 d11 d12 d13
          refine (keyc q6 HS6.out _).mono ?_
          rintro e w1 ⟨rfl, b1⟩
          rw [h3]
          replace HB := Aside0.mk (below2 HB.out HB.out.size b1)
          replace HR := Aside0.mk (HR.out.keep b1)
          clear b1
          obtain ⟨d0, d1, d2, d3, d4, d5, d6, d7, d8, d9, d10, d11, d12, d13⟩ := cells14 HR.out
          go_wp2_with fail
          go_ret
          exact ⟨by rw [HF.out, if_neg (by rw [h0]; decide), if_neg (by rw [h1]; decide), if_pos h2, if_neg (by rw [h3]; decide)]; rfl, HB.out⟩
        | true =>
          go_wp2_with fail
          clear d0 d1 d2 d3 d4 d5 d6 d7 d8 d9 d10 d11 d12 d13
          refine (keyc q6 HS6.out _).mono ?_
          rintro e w1 ⟨rfl, b1⟩
          rw [h3]
          replace HB := Aside0.mk (below2 HB.out HB.out.size b1)
          replace HR := Aside0.mk (HR.out.keep b1)
          clear b1
          obtain ⟨d0, d1, d2, d3, d4, d5, d6, d7, d8, d9, d10, d11, d12, d13⟩ := cells14 HR.out
          cases h4 : (q7 == q2) with
          | false =>
            have h4n : (q7 != q2) = true := by simp [bne, h4]
            go_wp2_with fail
            go_ret
            exact ⟨by rw [HF.out, if_neg (by rw [h0]; decide), if_neg (by rw [h1]; decide), if_pos h2, if_pos h3, if_neg (by rw [h4]; decide)]; rfl, HB.out⟩
          | true =>
            have h4n : (q7 != q2) = false := by simp [bne, h4]
            cases h5 : decide (q8 < 0) with
            | true =>
              go_wp2_with fail
              go_ret
              exact ⟨by rw [HF.out, if_neg (by rw [h0]; decide), if_neg (by rw [h1]; decide), if_pos h2, if_pos h3, if_pos h4, if_pos h5]; rfl, HB.out⟩
            | false =>
              cases h6 : decide (q9 < 0) with
              | true =>
                go_wp2_with fail
                go_ret
                exact ⟨by rw [HF.out, if_neg (by rw [h0]; decide), if_neg (by rw [h1]; decide), if_pos h2, if_pos h3, if_pos h4, if_neg (by rw [h5]; decide), if_pos h6]; rfl, HB.out⟩
              | false =>
                cases h7 : decide (384 < q8) with
                | true =>
                  go_wp2_with fail
                  go_ret
                  exact ⟨by rw [HF.out, if_neg (by rw [h0]; decide), if_neg (by rw [h1]; decide), if_pos h2, if_pos h3, if_pos h4, if_neg (by rw [h5]; decide), if_neg (by rw [h6]; decide), if_pos h7]; rfl, HB.out⟩
                | false =>
                  cases h8 : decide (384 < q9) with
                  | true =>
                    go_wp2_with fail
                    go_ret
                    exact ⟨by rw [HF.out, if_neg (by rw [h0]; decide), if_neg (by rw [h1]; decide), if_pos h2, if_pos h3, if_pos h4, if_neg (by rw [h5]; decide), if_neg (by rw [h6]; decide), if_neg (by rw [h7]; decide), if_pos h8]; rfl, HB.out⟩
                  | false =>
                    cases h9 : decide (q4 < wrap64 (q8 + q9)) with
                    | true =>
                      go_wp2_with fail
                      go_ret
                      exact ⟨by rw [HF.out, if_neg (by rw [h0]; decide), if_neg (by rw [h1]; decide), if_pos h2, if_pos h3, if_pos h4, if_neg (by rw [h5]; decide), if_neg (by rw [h6]; decide), if_neg (by rw [h7]; decide), if_neg (by rw [h8]; decide), if_pos h9]; rfl, HB.out⟩
                    | false =>
                      cases h10 : ((q10.size : Int) == 32) with
                      | false =>
                        have h10n : ((q10.size : Int) != 32) = true := by simp [bne, h10]
                        go_wp2_with fail
                        go_ret
                        exact ⟨by rw [HF.out, if_neg (by rw [h0]; decide), if_neg (by rw [h1]; decide), if_pos h2, if_pos h3, if_pos h4, if_neg (by rw [h5]; decide), if_neg (by rw [h6]; decide), if_neg (by rw [h7]; decide), if_neg (by rw [h8]; decide), if_neg (by rw [h9]; decide), if_neg (by rw [h10]; decide)]; rfl, HB.out⟩
                      | true =>
                        have h10n : ((q10.size : Int) != 32) = false := by simp [bne, h10]
                        go_wp2_with fail
                        obtain ⟨qq, hqq⟩ : ∃ qq, decide ((namedP (⟨q0, 0, q2, q3, q4, l, q6, q7, q8, q9, q10, q11, q12, q13⟩ : RecP)) = (⟨q0, 0, q2, q3, q4, l, q6, q7, q8, q9, q10, q11, q12, q13⟩ : RecP)) = qq := ⟨_, rfl⟩
                        have HQ := Lib.hid hqq
                        clear hqq
                        clear d0 d1 d2 d3 d4 d5 d6 d7 d8 d9 d10 d11 d12 d13
                        refine region_below_tail 4 (by kernel_rfl) (by kernel_rfl) ?_
                        simp only [List.take_succ_cons, List.take_zero, List.drop_succ_cons, List.drop_zero]
                        repeat (first | go_big_quiet_step (fail) | (refine BigFrame.wpQuiet_want (by rfl) (fun K hK => ?_); go_big_quiet_op; refine ⟨_, fun _ _ => rfl, hK _ ?_⟩; clear hK K) | (refine q_rdw 28 _ _ ⟨w.heap.size, 0, none⟩ (.agg #[.int .i64 q0, .int .i64 0, .int .i64 q2, .int .i64 q3, .int .i64 q4, (.slice A l.length c), .string q6, .int .i64 q7, .int .i64 q8, .int .i64 q9, .string q10, .string q11, .int .i64 q12, .int .i64 q13]) rfl rfl (by rfl) rfl (fun w' hw' => run_loadAt_mid w' w.heap.size 0 28 #[.int .i64 q0, .int .i64 0, .int .i64 q2, .int .i64 q3, .int .i64 q4, (.slice A l.length c), .string q6, .int .i64 q7, .int .i64 q8, .int .i64 q9, .string q10, .string q11, .int .i64 q12, .int .i64 q13].toList _ ((HR.out.keep hw').range 0 _ rfl) hu0 rfl (by kernel_rfl)) ?_; simp only [Act.put, List.setIfInBounds_toArray, List.set_cons_zero, List.set_cons_succ]) | (refine q_go (f := 36) Try.func36 (by kernel_rfl) rfl #[.agg #[.int .i64 q0, .int .i64 0, .int .i64 q2, .int .i64 q3, .int .i64 q4, (.slice A l.length c), .string q6, .int .i64 q7, .int .i64 q8, .int .i64 q9, .string q10, .string q11, .int .i64 q12, .int .i64 q13]] (.agg #[.int .i64 q0, .int .i64 0, .int .i64 q2, .int .i64 q3, .int .i64 q4, (.slice A l.length c), .string q6, .int .i64 q7, .int .i64 q8, .int .i64 q9, .string q10, .string ⟨#[]⟩, .int .i64 0, .int .i64 0]) _ rfl rfl rfl (by simp only [List.map_toArray, List.map_cons, List.map_nil]; rfl) (fun w' _ => only_0 q0 0 q2 q3 q4 A l.length c q6 q7 q8 q9 q10 q11 q12 q13 w' rfl) ?_; simp only [Act.put, List.setIfInBounds_toArray, List.set_cons_zero, List.set_cons_succ]) | (refine q_go (f := 21) Try.func21 (by kernel_rfl) rfl #[.agg #[.int .i64 q0, .int .i64 0, .int .i64 q2, .int .i64 q3, .int .i64 q4, (.slice A l.length c), .string q6, .int .i64 q7, .int .i64 q8, .int .i64 q9, .string q10, .string ⟨#[]⟩, .int .i64 0, .int .i64 0], .agg #[.int .i64 q0, .int .i64 0, .int .i64 q2, .int .i64 q3, .int .i64 q4, (.slice A l.length c), .string q6, .int .i64 q7, .int .i64 q8, .int .i64 q9, .string q10, .string q11, .int .i64 q12, .int .i64 q13]] (.bool (decide ((namedP (⟨q0, 0, q2, q3, q4, l, q6, q7, q8, q9, q10, q11, q12, q13⟩ : RecP)) = (⟨q0, 0, q2, q3, q4, l, q6, q7, q8, q9, q10, q11, q12, q13⟩ : RecP)))) _ rfl rfl rfl (by simp only [List.map_toArray, List.map_cons, List.map_nil]; rfl) (fun w' hw' => rsames_calls (namedP (⟨q0, 0, q2, q3, q4, l, q6, q7, q8, q9, q10, q11, q12, q13⟩ : RecP)) (⟨q0, 0, q2, q3, q4, l, q6, q7, q8, q9, q10, q11, q12, q13⟩ : RecP) A A c c w' (Kd.C_below HC.out (below2 HB.out HB.out.size hw')) (Kd.C_below HC.out (below2 HB.out HB.out.size hw')) HCC.out HCC.out HL.out) ?_; rw [HQ.out]; simp only [Act.put, List.setIfInBounds_toArray, List.set_cons_zero, List.set_cons_succ]))
                        refine wpQuiet_nil ?_
                        intro wn hw'
                        replace HB := Aside0.mk (below2 HB.out HB.out.size hw')
                        clear hw'
                        cases qq
                        · go_wp2_with fail
                          go_ret
                          exact ⟨by rw [HF.out, if_neg (by rw [h0]; decide), if_neg (by rw [h1]; decide), if_pos h2, if_pos h3, if_pos h4, if_neg (by rw [h5]; decide), if_neg (by rw [h6]; decide), if_neg (by rw [h7]; decide), if_neg (by rw [h8]; decide), if_neg (by rw [h9]; decide), if_pos h10]; unfold finP; rw [HQ.out]; rfl, HB.out⟩
                        · go_wp2_with fail
                          go_ret
                          exact ⟨by rw [HF.out, if_neg (by rw [h0]; decide), if_neg (by rw [h1]; decide), if_pos h2, if_pos h3, if_pos h4, if_neg (by rw [h5]; decide), if_neg (by rw [h6]; decide), if_neg (by rw [h7]; decide), if_neg (by rw [h8]; decide), if_neg (by rw [h9]; decide), if_pos h10]; unfold finP; rw [HQ.out]; rfl, HB.out⟩
theorem rform_1 (q0 q2 q3 q4 : Int) (A : Option Addr) (c : Nat) (l : List S67) (q6 : ByteArray) (q7 q8 q9 : Int) (q10 q11 : ByteArray) (q12 q13 : Int) : chkR (⟨q0, 1, q2, q3, q4, l, q6, q7, q8, q9, q10, q11, q12, q13⟩ : RecP) = (if decide (q0 < 0) = true then 1 else (if decide (63 < q0) = true then 1 else (if plainK q11.data.toList = true then (finP (⟨q0, 1, q2, q3, q4, l, q6, q7, q8, q9, q10, q11, q12, q13⟩ : RecP)) else 11))) := by
  rw [show chkR (⟨q0, 1, q2, q3, q4, l, q6, q7, q8, q9, q10, q11, q12, q13⟩ : RecP) = if inB q0 63 = true then (if plainK q11.data.toList = true then finP (⟨q0, 1, q2, q3, q4, l, q6, q7, q8, q9, q10, q11, q12, q13⟩ : RecP) else 11) else 1 from rfl]
  generalize finP (⟨q0, 1, q2, q3, q4, l, q6, q7, q8, q9, q10, q11, q12, q13⟩ : RecP) = z
  generalize plainK q11.data.toList = p
  cases p <;> simp only [inB, wrap64, Bool.and_eq_true, decide_eq_true_eq, Bool.false_eq_true, if_false, if_true, true_implies, forall_const] at * <;> (repeat' split) <;> first | rfl | (exfalso; omega)
set_option maxRecDepth 100000 in
set_option maxHeartbeats 4000000 in
theorem refchk_1 (q0 q2 q3 q4 : Int) (A : Option Addr) (c : Nat) (l : List S67) (q6 : ByteArray) (q7 q8 q9 : Int) (q10 q11 : ByteArray) (q12 q13 : Int) (w : World) (hr : Kd.C k67 w A l.length l) (hl : l.length ≤ 1000) (hc : l.length ≤ c) (hs6 : q6.size ≤ 140737488355328) (hs11 : q11.size ≤ 140737488355328) : Calls Try.prog 15 #[.agg #[.int .i64 q0, .int .i64 1, .int .i64 q2, .int .i64 q3, .int .i64 q4, (.slice A l.length c), .string q6, .int .i64 q7, .int .i64 q8, .int .i64 q9, .string q10, .string q11, .int .i64 q12, .int .i64 q13]] w fun e w' => e = .returned (.int .i64 (chkR (⟨q0, 1, q2, q3, q4, l, q6, q7, q8, q9, q10, q11, q12, q13⟩ : RecP))) ∧ Below w.heap.size w w' := by
  have hu0 := Try.underlying28
  have hu1 := Try.underlying34
  have hu2 := Try.underlying24
  have hu3 := Try.underlying26
  have hu4 := Try.underlying67
  have HF := Lib.hid (rform_1 q0 q2 q3 q4 A c l q6 q7 q8 q9 q10 q11 q12 q13)
  have HC := Lib.hid hr
  have HL := Lib.hid hl
  have HCC := Lib.hid hc
  have HS6 := Lib.hid hs6
  have HS11 := Lib.hid hs11
  clear hr hl hc hs6 hs11
  have HB : Aside0 (Below w.heap.size w (w.alloc (.cells #[.int .i64 q0, .int .i64 1, .int .i64 q2, .int .i64 q3, .int .i64 q4, (.slice A l.length c), .string q6, .int .i64 q7, .int .i64 q8, .int .i64 q9, .string q10, .string q11, .int .i64 q12, .int .i64 q13] 28))) := ⟨below_alloc (Below.refl _ _) _⟩
  have HR : Aside0 (Blk (w.alloc (.cells #[.int .i64 q0, .int .i64 1, .int .i64 q2, .int .i64 q3, .int .i64 q4, (.slice A l.length c), .string q6, .int .i64 q7, .int .i64 q8, .int .i64 q9, .string q10, .string q11, .int .i64 q12, .int .i64 q13] 28)) w.heap.size #[.int .i64 q0, .int .i64 1, .int .i64 q2, .int .i64 q3, .int .i64 q4, (.slice A l.length c), .string q6, .int .i64 q7, .int .i64 q8, .int .i64 q9, .string q10, .string q11, .int .i64 q12, .int .i64 q13] 28) := ⟨Blk.new w _ _⟩
  obtain ⟨d0, d1, d2, d3, d4, d5, d6, d7, d8, d9, d10, d11, d12, d13⟩ := cells14 HR.out
  go_enter Try.func15, Try.ntmps15
  cases h0 : decide (q0 < 0) with
  | true =>
    go_wp2_with fail
    go_ret
    exact ⟨by rw [HF.out, if_pos h0]; rfl, HB.out⟩
  | false =>
    cases h1 : decide (63 < q0) with
    | true =>
      go_wp2_with fail
      go_ret
      exact ⟨by rw [HF.out, if_neg (by rw [h0]; decide), if_pos h1]; rfl, HB.out⟩
    | false =>
      cases h2 : plainK q11.data.toList with
      | false =>
        go_wp2_with fail
        clear d0 d1 d2 d3 d4 d5 d6 d7 d8 d9 d10 d11 d12 d13
        refine (keyc q11 HS11.out _).mono ?_
        rintro e w1 ⟨rfl, b1⟩
        rw [h2]
        replace HB := Aside0.mk (below2 HB.out HB.out.size b1)
        replace HR := Aside0.mk (HR.out.keep b1)
        clear b1
        obtain ⟨d0, d1, d2, d3, d4, d5, d6, d7, d8, d9, d10, d11, d12, d13⟩ := cells14 HR.out
        go_wp2_with fail
        go_ret
        exact ⟨by rw [HF.out, if_neg (by rw [h0]; decide), if_neg (by rw [h1]; decide), if_neg (by rw [h2]; decide)]; rfl, HB.out⟩
      | true =>
        go_wp2_with fail
        clear d0 d1 d2 d3 d4 d5 d6 d7 d8 d9 d10 d11 d12 d13
        refine (keyc q11 HS11.out _).mono ?_
        rintro e w1 ⟨rfl, b1⟩
        rw [h2]
        replace HB := Aside0.mk (below2 HB.out HB.out.size b1)
        replace HR := Aside0.mk (HR.out.keep b1)
        clear b1
        obtain ⟨d0, d1, d2, d3, d4, d5, d6, d7, d8, d9, d10, d11, d12, d13⟩ := cells14 HR.out
        go_wp2_with fail
        obtain ⟨qq, hqq⟩ : ∃ qq, decide ((namedP (⟨q0, 1, q2, q3, q4, l, q6, q7, q8, q9, q10, q11, q12, q13⟩ : RecP)) = (⟨q0, 1, q2, q3, q4, l, q6, q7, q8, q9, q10, q11, q12, q13⟩ : RecP)) = qq := ⟨_, rfl⟩
        have HQ := Lib.hid hqq
        clear hqq
        clear d0 d1 d2 d3 d4 d5 d6 d7 d8 d9 d10 d11 d12 d13
        refine region_below_tail 4 (by kernel_rfl) (by kernel_rfl) ?_
        simp only [List.take_succ_cons, List.take_zero, List.drop_succ_cons, List.drop_zero]
        repeat (first | go_big_quiet_step (fail) | (refine BigFrame.wpQuiet_want (by rfl) (fun K hK => ?_); go_big_quiet_op; refine ⟨_, fun _ _ => rfl, hK _ ?_⟩; clear hK K) | (refine q_rdw 28 _ _ ⟨w.heap.size, 0, none⟩ (.agg #[.int .i64 q0, .int .i64 1, .int .i64 q2, .int .i64 q3, .int .i64 q4, (.slice A l.length c), .string q6, .int .i64 q7, .int .i64 q8, .int .i64 q9, .string q10, .string q11, .int .i64 q12, .int .i64 q13]) rfl rfl (by rfl) rfl (fun w' hw' => run_loadAt_mid w' w.heap.size 0 28 #[.int .i64 q0, .int .i64 1, .int .i64 q2, .int .i64 q3, .int .i64 q4, (.slice A l.length c), .string q6, .int .i64 q7, .int .i64 q8, .int .i64 q9, .string q10, .string q11, .int .i64 q12, .int .i64 q13].toList _ ((HR.out.keep hw').range 0 _ rfl) hu0 rfl (by kernel_rfl)) ?_; simp only [Act.put, List.setIfInBounds_toArray, List.set_cons_zero, List.set_cons_succ]) | (refine q_go (f := 36) Try.func36 (by kernel_rfl) rfl #[.agg #[.int .i64 q0, .int .i64 1, .int .i64 q2, .int .i64 q3, .int .i64 q4, (.slice A l.length c), .string q6, .int .i64 q7, .int .i64 q8, .int .i64 q9, .string q10, .string q11, .int .i64 q12, .int .i64 q13]] (.agg #[.int .i64 q0, .int .i64 1, .int .i64 0, .int .i64 0, .int .i64 0, (.slice none 0 0), .string ⟨#[]⟩, .int .i64 0, .int .i64 0, .int .i64 0, .string ⟨#[]⟩, .string q11, .int .i64 0, .int .i64 0]) _ rfl rfl rfl (by simp only [List.map_toArray, List.map_cons, List.map_nil]; rfl) (fun w' _ => only_1 q0 1 q2 q3 q4 A l.length c q6 q7 q8 q9 q10 q11 q12 q13 w' rfl) ?_; simp only [Act.put, List.setIfInBounds_toArray, List.set_cons_zero, List.set_cons_succ]) | (refine q_go (f := 21) Try.func21 (by kernel_rfl) rfl #[.agg #[.int .i64 q0, .int .i64 1, .int .i64 0, .int .i64 0, .int .i64 0, (.slice none 0 0), .string ⟨#[]⟩, .int .i64 0, .int .i64 0, .int .i64 0, .string ⟨#[]⟩, .string q11, .int .i64 0, .int .i64 0], .agg #[.int .i64 q0, .int .i64 1, .int .i64 q2, .int .i64 q3, .int .i64 q4, (.slice A l.length c), .string q6, .int .i64 q7, .int .i64 q8, .int .i64 q9, .string q10, .string q11, .int .i64 q12, .int .i64 q13]] (.bool (decide ((namedP (⟨q0, 1, q2, q3, q4, l, q6, q7, q8, q9, q10, q11, q12, q13⟩ : RecP)) = (⟨q0, 1, q2, q3, q4, l, q6, q7, q8, q9, q10, q11, q12, q13⟩ : RecP)))) _ rfl rfl rfl (by simp only [List.map_toArray, List.map_cons, List.map_nil]; rfl) (fun w' hw' => rsames_calls (namedP (⟨q0, 1, q2, q3, q4, l, q6, q7, q8, q9, q10, q11, q12, q13⟩ : RecP)) (⟨q0, 1, q2, q3, q4, l, q6, q7, q8, q9, q10, q11, q12, q13⟩ : RecP) none A 0 c w' (Kd.C_nil _ w') (Kd.C_below HC.out (below2 HB.out HB.out.size hw')) (Nat.le_refl 0) HCC.out (Nat.zero_le _)) ?_; rw [HQ.out]; simp only [Act.put, List.setIfInBounds_toArray, List.set_cons_zero, List.set_cons_succ]))
        refine wpQuiet_nil ?_
        intro wn hw'
        replace HB := Aside0.mk (below2 HB.out HB.out.size hw')
        clear hw'
        cases qq
        · go_wp2_with fail
          go_ret
          exact ⟨by rw [HF.out, if_neg (by rw [h0]; decide), if_neg (by rw [h1]; decide), if_pos h2]; unfold finP; rw [HQ.out]; rfl, HB.out⟩
        · go_wp2_with fail
          go_ret
          exact ⟨by rw [HF.out, if_neg (by rw [h0]; decide), if_neg (by rw [h1]; decide), if_pos h2]; unfold finP; rw [HQ.out]; rfl, HB.out⟩
theorem rform_2 (q0 q2 q3 q4 : Int) (A : Option Addr) (c : Nat) (l : List S67) (q6 : ByteArray) (q7 q8 q9 : Int) (q10 q11 : ByteArray) (q12 q13 : Int) : chkR (⟨q0, 2, q2, q3, q4, l, q6, q7, q8, q9, q10, q11, q12, q13⟩ : RecP) = (if decide (q0 < 0) = true then 1 else (if decide (63 < q0) = true then 1 else (if volR (⟨q0, 2, q2, q3, q4, l, q6, q7, q8, q9, q10, q11, q12, q13⟩ : RecP) = true then (finP (⟨q0, 2, q2, q3, q4, l, q6, q7, q8, q9, q10, q11, q12, q13⟩ : RecP)) else 1))) := by
  rw [show chkR (⟨q0, 2, q2, q3, q4, l, q6, q7, q8, q9, q10, q11, q12, q13⟩ : RecP) = if inB q0 63 = true then (if volR (⟨q0, 2, q2, q3, q4, l, q6, q7, q8, q9, q10, q11, q12, q13⟩ : RecP) = true then finP (⟨q0, 2, q2, q3, q4, l, q6, q7, q8, q9, q10, q11, q12, q13⟩ : RecP) else 1) else 1 from rfl]
  generalize finP (⟨q0, 2, q2, q3, q4, l, q6, q7, q8, q9, q10, q11, q12, q13⟩ : RecP) = z
  have hv : volR (⟨q0, 2, q2, q3, q4, l, q6, q7, q8, q9, q10, q11, q12, q13⟩ : RecP) = true → 0 ≤ q4 ∧ q4 ≤ 384 := fun h => vol_len h
  generalize volR (⟨q0, 2, q2, q3, q4, l, q6, q7, q8, q9, q10, q11, q12, q13⟩ : RecP) = v at hv
  cases v <;> simp only [inB, wrap64, Bool.and_eq_true, decide_eq_true_eq, Bool.false_eq_true, if_false, if_true, true_implies, forall_const] at * <;> (repeat' split) <;> first | rfl | (exfalso; omega)
set_option maxRecDepth 100000 in
set_option maxHeartbeats 4000000 in
theorem refchk_2 (q0 q2 q3 q4 : Int) (A : Option Addr) (c : Nat) (l : List S67) (q6 : ByteArray) (q7 q8 q9 : Int) (q10 q11 : ByteArray) (q12 q13 : Int) (w : World) (hr : Kd.C k67 w A l.length l) (hl : l.length ≤ 1000) (hc : l.length ≤ c) (hs6 : q6.size ≤ 140737488355328) (hs11 : q11.size ≤ 140737488355328) : Calls Try.prog 15 #[.agg #[.int .i64 q0, .int .i64 2, .int .i64 q2, .int .i64 q3, .int .i64 q4, (.slice A l.length c), .string q6, .int .i64 q7, .int .i64 q8, .int .i64 q9, .string q10, .string q11, .int .i64 q12, .int .i64 q13]] w fun e w' => e = .returned (.int .i64 (chkR (⟨q0, 2, q2, q3, q4, l, q6, q7, q8, q9, q10, q11, q12, q13⟩ : RecP))) ∧ Below w.heap.size w w' := by
  have hu0 := Try.underlying28
  have hu1 := Try.underlying34
  have hu2 := Try.underlying24
  have hu3 := Try.underlying26
  have hu4 := Try.underlying67
  have HF := Lib.hid (rform_2 q0 q2 q3 q4 A c l q6 q7 q8 q9 q10 q11 q12 q13)
  have HC := Lib.hid hr
  have HL := Lib.hid hl
  have HCC := Lib.hid hc
  have HS6 := Lib.hid hs6
  have HS11 := Lib.hid hs11
  clear hr hl hc hs6 hs11
  have HB : Aside0 (Below w.heap.size w (w.alloc (.cells #[.int .i64 q0, .int .i64 2, .int .i64 q2, .int .i64 q3, .int .i64 q4, (.slice A l.length c), .string q6, .int .i64 q7, .int .i64 q8, .int .i64 q9, .string q10, .string q11, .int .i64 q12, .int .i64 q13] 28))) := ⟨below_alloc (Below.refl _ _) _⟩
  have HR : Aside0 (Blk (w.alloc (.cells #[.int .i64 q0, .int .i64 2, .int .i64 q2, .int .i64 q3, .int .i64 q4, (.slice A l.length c), .string q6, .int .i64 q7, .int .i64 q8, .int .i64 q9, .string q10, .string q11, .int .i64 q12, .int .i64 q13] 28)) w.heap.size #[.int .i64 q0, .int .i64 2, .int .i64 q2, .int .i64 q3, .int .i64 q4, (.slice A l.length c), .string q6, .int .i64 q7, .int .i64 q8, .int .i64 q9, .string q10, .string q11, .int .i64 q12, .int .i64 q13] 28) := ⟨Blk.new w _ _⟩
  obtain ⟨d0, d1, d2, d3, d4, d5, d6, d7, d8, d9, d10, d11, d12, d13⟩ := cells14 HR.out
  go_enter Try.func15, Try.ntmps15
  cases h0 : decide (q0 < 0) with
  | true =>
    go_wp2_with fail
    go_ret
    exact ⟨by rw [HF.out, if_pos h0]; rfl, HB.out⟩
  | false =>
    cases h1 : decide (63 < q0) with
    | true =>
      go_wp2_with fail
      go_ret
      exact ⟨by rw [HF.out, if_neg (by rw [h0]; decide), if_pos h1]; rfl, HB.out⟩
    | false =>
      cases h2 : volR (⟨q0, 2, q2, q3, q4, l, q6, q7, q8, q9, q10, q11, q12, q13⟩ : RecP) with
      | false =>
        go_wp2_with fail
        clear d0 d1 d2 d3 d4 d5 d6 d7 d8 d9 d10 d11 d12 d13
        refine (rvolc q2 q3 q4 A c l _ (Kd.C_below HC.out HB.out) HCC.out).mono ?_
        rintro e w1 ⟨rfl, b1⟩
        rw [show volP q2 q3 q4 l = false from h2]
        replace HB := Aside0.mk (below2 HB.out HB.out.size b1)
        replace HR := Aside0.mk (HR.out.keep b1)
        clear b1
        obtain ⟨d0, d1, d2, d3, d4, d5, d6, d7, d8, d9, d10, d11, d12, d13⟩ := cells14 HR.out
        go_wp2_with fail
        go_ret
        exact ⟨by rw [HF.out, if_neg (by rw [h0]; decide), if_neg (by rw [h1]; decide), if_neg (by rw [h2]; decide)]; rfl, HB.out⟩
      | true =>
        go_wp2_with fail
        clear d0 d1 d2 d3 d4 d5 d6 d7 d8 d9 d10 d11 d12 d13
        refine (rvolc q2 q3 q4 A c l _ (Kd.C_below HC.out HB.out) HCC.out).mono ?_
        rintro e w1 ⟨rfl, b1⟩
        rw [show volP q2 q3 q4 l = true from h2]
        replace HB := Aside0.mk (below2 HB.out HB.out.size b1)
        replace HR := Aside0.mk (HR.out.keep b1)
        clear b1
        obtain ⟨d0, d1, d2, d3, d4, d5, d6, d7, d8, d9, d10, d11, d12, d13⟩ := cells14 HR.out
        go_wp2_with fail
        obtain ⟨qq, hqq⟩ : ∃ qq, decide ((namedP (⟨q0, 2, q2, q3, q4, l, q6, q7, q8, q9, q10, q11, q12, q13⟩ : RecP)) = (⟨q0, 2, q2, q3, q4, l, q6, q7, q8, q9, q10, q11, q12, q13⟩ : RecP)) = qq := ⟨_, rfl⟩
        have HQ := Lib.hid hqq
        clear hqq
        clear d0 d1 d2 d3 d4 d5 d6 d7 d8 d9 d10 d11 d12 d13
        refine region_below_tail 4 (by kernel_rfl) (by kernel_rfl) ?_
        simp only [List.take_succ_cons, List.take_zero, List.drop_succ_cons, List.drop_zero]
        repeat (first | go_big_quiet_step (fail) | (refine BigFrame.wpQuiet_want (by rfl) (fun K hK => ?_); go_big_quiet_op; refine ⟨_, fun _ _ => rfl, hK _ ?_⟩; clear hK K) | (refine q_rdw 28 _ _ ⟨w.heap.size, 0, none⟩ (.agg #[.int .i64 q0, .int .i64 2, .int .i64 q2, .int .i64 q3, .int .i64 q4, (.slice A l.length c), .string q6, .int .i64 q7, .int .i64 q8, .int .i64 q9, .string q10, .string q11, .int .i64 q12, .int .i64 q13]) rfl rfl (by rfl) rfl (fun w' hw' => run_loadAt_mid w' w.heap.size 0 28 #[.int .i64 q0, .int .i64 2, .int .i64 q2, .int .i64 q3, .int .i64 q4, (.slice A l.length c), .string q6, .int .i64 q7, .int .i64 q8, .int .i64 q9, .string q10, .string q11, .int .i64 q12, .int .i64 q13].toList _ ((HR.out.keep hw').range 0 _ rfl) hu0 rfl (by kernel_rfl)) ?_; simp only [Act.put, List.setIfInBounds_toArray, List.set_cons_zero, List.set_cons_succ]) | (refine q_go (f := 36) Try.func36 (by kernel_rfl) rfl #[.agg #[.int .i64 q0, .int .i64 2, .int .i64 q2, .int .i64 q3, .int .i64 q4, (.slice A l.length c), .string q6, .int .i64 q7, .int .i64 q8, .int .i64 q9, .string q10, .string q11, .int .i64 q12, .int .i64 q13]] (.agg #[.int .i64 q0, .int .i64 2, .int .i64 q2, .int .i64 q3, .int .i64 q4, (.slice A l.length c), .string ⟨#[]⟩, .int .i64 0, .int .i64 0, .int .i64 0, .string ⟨#[]⟩, .string ⟨#[]⟩, .int .i64 0, .int .i64 0]) _ rfl rfl rfl (by simp only [List.map_toArray, List.map_cons, List.map_nil]; rfl) (fun w' _ => only_x q0 2 q2 q3 q4 A l.length c q6 q7 q8 q9 q10 q11 q12 q13 w' (by decide) (by decide) (by decide)) ?_; simp only [Act.put, List.setIfInBounds_toArray, List.set_cons_zero, List.set_cons_succ]) | (refine q_go (f := 21) Try.func21 (by kernel_rfl) rfl #[.agg #[.int .i64 q0, .int .i64 2, .int .i64 q2, .int .i64 q3, .int .i64 q4, (.slice A l.length c), .string ⟨#[]⟩, .int .i64 0, .int .i64 0, .int .i64 0, .string ⟨#[]⟩, .string ⟨#[]⟩, .int .i64 0, .int .i64 0], .agg #[.int .i64 q0, .int .i64 2, .int .i64 q2, .int .i64 q3, .int .i64 q4, (.slice A l.length c), .string q6, .int .i64 q7, .int .i64 q8, .int .i64 q9, .string q10, .string q11, .int .i64 q12, .int .i64 q13]] (.bool (decide ((namedP (⟨q0, 2, q2, q3, q4, l, q6, q7, q8, q9, q10, q11, q12, q13⟩ : RecP)) = (⟨q0, 2, q2, q3, q4, l, q6, q7, q8, q9, q10, q11, q12, q13⟩ : RecP)))) _ rfl rfl rfl (by simp only [List.map_toArray, List.map_cons, List.map_nil]; rfl) (fun w' hw' => rsames_calls (namedP (⟨q0, 2, q2, q3, q4, l, q6, q7, q8, q9, q10, q11, q12, q13⟩ : RecP)) (⟨q0, 2, q2, q3, q4, l, q6, q7, q8, q9, q10, q11, q12, q13⟩ : RecP) A A c c w' (Kd.C_below HC.out (below2 HB.out HB.out.size hw')) (Kd.C_below HC.out (below2 HB.out HB.out.size hw')) HCC.out HCC.out HL.out) ?_; rw [HQ.out]; simp only [Act.put, List.setIfInBounds_toArray, List.set_cons_zero, List.set_cons_succ]))
        refine wpQuiet_nil ?_
        intro wn hw'
        replace HB := Aside0.mk (below2 HB.out HB.out.size hw')
        clear hw'
        cases qq
        · go_wp2_with fail
          go_ret
          exact ⟨by rw [HF.out, if_neg (by rw [h0]; decide), if_neg (by rw [h1]; decide), if_pos h2]; unfold finP; rw [HQ.out]; rfl, HB.out⟩
        · go_wp2_with fail
          go_ret
          exact ⟨by rw [HF.out, if_neg (by rw [h0]; decide), if_neg (by rw [h1]; decide), if_pos h2]; unfold finP; rw [HQ.out]; rfl, HB.out⟩
theorem rform_3 (q0 q2 q3 q4 : Int) (A : Option Addr) (c : Nat) (l : List S67) (q6 : ByteArray) (q7 q8 q9 : Int) (q10 q11 : ByteArray) (q12 q13 : Int) : chkR (⟨q0, 3, q2, q3, q4, l, q6, q7, q8, q9, q10, q11, q12, q13⟩ : RecP) = (if decide (q0 < 0) = true then 1 else (if decide (63 < q0) = true then 1 else (if volR (⟨q0, 3, q2, q3, q4, l, q6, q7, q8, q9, q10, q11, q12, q13⟩ : RecP) = true then (if inB q12 1099511627776 = true then (if inB q13 1099511627776 = true then (if (q12 == q13) = true then 1 else (finP (⟨q0, 3, q2, q3, q4, l, q6, q7, q8, q9, q10, q11, q12, q13⟩ : RecP))) else 1) else 1) else 1))) := by
  rw [show chkR (⟨q0, 3, q2, q3, q4, l, q6, q7, q8, q9, q10, q11, q12, q13⟩ : RecP) = if inB q0 63 = true then (if volR (⟨q0, 3, q2, q3, q4, l, q6, q7, q8, q9, q10, q11, q12, q13⟩ : RecP) = true then (if inB q12 1099511627776 = true then (if inB q13 1099511627776 = true then (if (q12 == q13) = true then 1 else finP (⟨q0, 3, q2, q3, q4, l, q6, q7, q8, q9, q10, q11, q12, q13⟩ : RecP)) else 1) else 1) else 1) else 1 from rfl]
  generalize finP (⟨q0, 3, q2, q3, q4, l, q6, q7, q8, q9, q10, q11, q12, q13⟩ : RecP) = z
  have hv : volR (⟨q0, 3, q2, q3, q4, l, q6, q7, q8, q9, q10, q11, q12, q13⟩ : RecP) = true → 0 ≤ q4 ∧ q4 ≤ 384 := fun h => vol_len h
  generalize volR (⟨q0, 3, q2, q3, q4, l, q6, q7, q8, q9, q10, q11, q12, q13⟩ : RecP) = v at hv
  generalize (q12 == q13) = e1
  generalize inB q12 1099511627776 = b1
  generalize inB q13 1099511627776 = b2
  cases v <;> cases e1 <;> cases b1 <;> cases b2 <;> simp only [inB, wrap64, Bool.and_eq_true, decide_eq_true_eq, Bool.false_eq_true, if_false, if_true, true_implies, forall_const] at * <;> (repeat' split) <;> first | rfl | (exfalso; omega)
set_option maxRecDepth 100000 in
set_option maxHeartbeats 4000000 in
theorem refchk_3 (q0 q2 q3 q4 : Int) (A : Option Addr) (c : Nat) (l : List S67) (q6 : ByteArray) (q7 q8 q9 : Int) (q10 q11 : ByteArray) (q12 q13 : Int) (w : World) (hr : Kd.C k67 w A l.length l) (hl : l.length ≤ 1000) (hc : l.length ≤ c) (hs6 : q6.size ≤ 140737488355328) (hs11 : q11.size ≤ 140737488355328) : Calls Try.prog 15 #[.agg #[.int .i64 q0, .int .i64 3, .int .i64 q2, .int .i64 q3, .int .i64 q4, (.slice A l.length c), .string q6, .int .i64 q7, .int .i64 q8, .int .i64 q9, .string q10, .string q11, .int .i64 q12, .int .i64 q13]] w fun e w' => e = .returned (.int .i64 (chkR (⟨q0, 3, q2, q3, q4, l, q6, q7, q8, q9, q10, q11, q12, q13⟩ : RecP))) ∧ Below w.heap.size w w' := by
  have hu0 := Try.underlying28
  have hu1 := Try.underlying34
  have hu2 := Try.underlying24
  have hu3 := Try.underlying26
  have hu4 := Try.underlying67
  have HF := Lib.hid (rform_3 q0 q2 q3 q4 A c l q6 q7 q8 q9 q10 q11 q12 q13)
  have HC := Lib.hid hr
  have HL := Lib.hid hl
  have HCC := Lib.hid hc
  have HS6 := Lib.hid hs6
  have HS11 := Lib.hid hs11
  clear hr hl hc hs6 hs11
  have HB : Aside0 (Below w.heap.size w (w.alloc (.cells #[.int .i64 q0, .int .i64 3, .int .i64 q2, .int .i64 q3, .int .i64 q4, (.slice A l.length c), .string q6, .int .i64 q7, .int .i64 q8, .int .i64 q9, .string q10, .string q11, .int .i64 q12, .int .i64 q13] 28))) := ⟨below_alloc (Below.refl _ _) _⟩
  have HR : Aside0 (Blk (w.alloc (.cells #[.int .i64 q0, .int .i64 3, .int .i64 q2, .int .i64 q3, .int .i64 q4, (.slice A l.length c), .string q6, .int .i64 q7, .int .i64 q8, .int .i64 q9, .string q10, .string q11, .int .i64 q12, .int .i64 q13] 28)) w.heap.size #[.int .i64 q0, .int .i64 3, .int .i64 q2, .int .i64 q3, .int .i64 q4, (.slice A l.length c), .string q6, .int .i64 q7, .int .i64 q8, .int .i64 q9, .string q10, .string q11, .int .i64 q12, .int .i64 q13] 28) := ⟨Blk.new w _ _⟩
  obtain ⟨d0, d1, d2, d3, d4, d5, d6, d7, d8, d9, d10, d11, d12, d13⟩ := cells14 HR.out
  go_enter Try.func15, Try.ntmps15
  cases h0 : decide (q0 < 0) with
  | true =>
    go_wp2_with fail
    go_ret
    exact ⟨by rw [HF.out, if_pos h0]; rfl, HB.out⟩
  | false =>
    cases h1 : decide (63 < q0) with
    | true =>
      go_wp2_with fail
      go_ret
      exact ⟨by rw [HF.out, if_neg (by rw [h0]; decide), if_pos h1]; rfl, HB.out⟩
    | false =>
      cases h2 : volR (⟨q0, 3, q2, q3, q4, l, q6, q7, q8, q9, q10, q11, q12, q13⟩ : RecP) with
      | false =>
        go_wp2_with fail
        clear d0 d1 d2 d3 d4 d5 d6 d7 d8 d9 d10 d11 d12 d13
        refine (rvolc q2 q3 q4 A c l _ (Kd.C_below HC.out HB.out) HCC.out).mono ?_
        rintro e w1 ⟨rfl, b1⟩
        rw [show volP q2 q3 q4 l = false from h2]
        replace HB := Aside0.mk (below2 HB.out HB.out.size b1)
        replace HR := Aside0.mk (HR.out.keep b1)
        clear b1
        obtain ⟨d0, d1, d2, d3, d4, d5, d6, d7, d8, d9, d10, d11, d12, d13⟩ := cells14 HR.out
        go_wp2_with fail
        go_ret
        exact ⟨by rw [HF.out, if_neg (by rw [h0]; decide), if_neg (by rw [h1]; decide), if_neg (by rw [h2]; decide)]; rfl, HB.out⟩
      | true =>
        go_wp2_with fail
        clear d0 d1 d2 d3 d4 d5 d6 d7 d8 d9 d10 d11 d12 d13
        refine (rvolc q2 q3 q4 A c l _ (Kd.C_below HC.out HB.out) HCC.out).mono ?_
        rintro e w1 ⟨rfl, b1⟩
        rw [show volP q2 q3 q4 l = true from h2]
        replace HB := Aside0.mk (below2 HB.out HB.out.size b1)
        replace HR := Aside0.mk (HR.out.keep b1)
        clear b1
        obtain ⟨d0, d1, d2, d3, d4, d5, d6, d7, d8, d9, d10, d11, d12, d13⟩ := cells14 HR.out
        cases h3 : inB q12 1099511627776 with
        | false =>
          go_wp2_with fail
          clear d0 d1 d2 d3 d4 d5 d6 d7 d8 d9 d10 d11 d12 d13
          refine (numc _ _).mono ?_
          rintro e w1 ⟨rfl, b1⟩
          rw [h3]
          replace HB := Aside0.mk (below2 HB.out HB.out.size b1)
          replace HR := Aside0.mk (HR.out.keep b1)
          clear b1
          obtain ⟨d0, d1, d2, d3, d4, d5, d6, d7, d8, d9, d10, d11, d12, d13⟩ := cells14 HR.out
          go_wp2_with fail
          go_ret
          exact ⟨by rw [HF.out, if_neg (by rw [h0]; decide), if_neg (by rw [h1]; decide), if_pos h2, if_neg (by rw [h3]; decide)]; rfl, HB.out⟩
        | true =>
          go_wp2_with fail
          clear d0 d1 d2 d3 d4 d5 d6 d7 d8 d9 d10 d11 d12 d13
          refine (numc _ _).mono ?_
          rintro e w1 ⟨rfl, b1⟩
          rw [h3]
          replace HB := Aside0.mk (below2 HB.out HB.out.size b1)
          replace HR := Aside0.mk (HR.out.keep b1)
          clear b1
          obtain ⟨d0, d1, d2, d3, d4, d5, d6, d7, d8, d9, d10, d11, d12, d13⟩ := cells14 HR.out
          cases h4 : inB q13 1099511627776 with
          | false =>
            go_wp2_with fail
            clear d0 d1 d2 d3 d4 d5 d6 d7 d8 d9 d10 d11 d12 d13
            refine (numc _ _).mono ?_
            rintro e w1 ⟨rfl, b1⟩
            rw [h4]
            replace HB := Aside0.mk (below2 HB.out HB.out.size b1)
            replace HR := Aside0.mk (HR.out.keep b1)
            clear b1
            obtain ⟨d0, d1, d2, d3, d4, d5, d6, d7, d8, d9, d10, d11, d12, d13⟩ := cells14 HR.out
            go_wp2_with fail
            go_ret
            exact ⟨by rw [HF.out, if_neg (by rw [h0]; decide), if_neg (by rw [h1]; decide), if_pos h2, if_pos h3, if_neg (by rw [h4]; decide)]; rfl, HB.out⟩
          | true =>
            go_wp2_with fail
            clear d0 d1 d2 d3 d4 d5 d6 d7 d8 d9 d10 d11 d12 d13
            refine (numc _ _).mono ?_
            rintro e w1 ⟨rfl, b1⟩
            rw [h4]
            replace HB := Aside0.mk (below2 HB.out HB.out.size b1)
            replace HR := Aside0.mk (HR.out.keep b1)
            clear b1
            obtain ⟨d0, d1, d2, d3, d4, d5, d6, d7, d8, d9, d10, d11, d12, d13⟩ := cells14 HR.out
            cases h5 : (q12 == q13) with
            | true =>
              have h5n : (q12 != q13) = false := by simp [bne, h5]
              go_wp2_with fail
              go_ret
              exact ⟨by rw [HF.out, if_neg (by rw [h0]; decide), if_neg (by rw [h1]; decide), if_pos h2, if_pos h3, if_pos h4, if_pos h5]; rfl, HB.out⟩
            | false =>
              have h5n : (q12 != q13) = true := by simp [bne, h5]
              go_wp2_with fail
              obtain ⟨qq, hqq⟩ : ∃ qq, decide ((namedP (⟨q0, 3, q2, q3, q4, l, q6, q7, q8, q9, q10, q11, q12, q13⟩ : RecP)) = (⟨q0, 3, q2, q3, q4, l, q6, q7, q8, q9, q10, q11, q12, q13⟩ : RecP)) = qq := ⟨_, rfl⟩
              have HQ := Lib.hid hqq
              clear hqq
              clear d0 d1 d2 d3 d4 d5 d6 d7 d8 d9 d10 d11 d12 d13
              refine region_below_tail 4 (by kernel_rfl) (by kernel_rfl) ?_
              simp only [List.take_succ_cons, List.take_zero, List.drop_succ_cons, List.drop_zero]
              repeat (first | go_big_quiet_step (fail) | (refine BigFrame.wpQuiet_want (by rfl) (fun K hK => ?_); go_big_quiet_op; refine ⟨_, fun _ _ => rfl, hK _ ?_⟩; clear hK K) | (refine q_rdw 28 _ _ ⟨w.heap.size, 0, none⟩ (.agg #[.int .i64 q0, .int .i64 3, .int .i64 q2, .int .i64 q3, .int .i64 q4, (.slice A l.length c), .string q6, .int .i64 q7, .int .i64 q8, .int .i64 q9, .string q10, .string q11, .int .i64 q12, .int .i64 q13]) rfl rfl (by rfl) rfl (fun w' hw' => run_loadAt_mid w' w.heap.size 0 28 #[.int .i64 q0, .int .i64 3, .int .i64 q2, .int .i64 q3, .int .i64 q4, (.slice A l.length c), .string q6, .int .i64 q7, .int .i64 q8, .int .i64 q9, .string q10, .string q11, .int .i64 q12, .int .i64 q13].toList _ ((HR.out.keep hw').range 0 _ rfl) hu0 rfl (by kernel_rfl)) ?_; simp only [Act.put, List.setIfInBounds_toArray, List.set_cons_zero, List.set_cons_succ]) | (refine q_go (f := 36) Try.func36 (by kernel_rfl) rfl #[.agg #[.int .i64 q0, .int .i64 3, .int .i64 q2, .int .i64 q3, .int .i64 q4, (.slice A l.length c), .string q6, .int .i64 q7, .int .i64 q8, .int .i64 q9, .string q10, .string q11, .int .i64 q12, .int .i64 q13]] (.agg #[.int .i64 q0, .int .i64 3, .int .i64 q2, .int .i64 q3, .int .i64 q4, (.slice A l.length c), .string ⟨#[]⟩, .int .i64 0, .int .i64 0, .int .i64 0, .string ⟨#[]⟩, .string ⟨#[]⟩, .int .i64 q12, .int .i64 q13]) _ rfl rfl rfl (by simp only [List.map_toArray, List.map_cons, List.map_nil]; rfl) (fun w' _ => only_3 q0 3 q2 q3 q4 A l.length c q6 q7 q8 q9 q10 q11 q12 q13 w' rfl) ?_; simp only [Act.put, List.setIfInBounds_toArray, List.set_cons_zero, List.set_cons_succ]) | (refine q_go (f := 21) Try.func21 (by kernel_rfl) rfl #[.agg #[.int .i64 q0, .int .i64 3, .int .i64 q2, .int .i64 q3, .int .i64 q4, (.slice A l.length c), .string ⟨#[]⟩, .int .i64 0, .int .i64 0, .int .i64 0, .string ⟨#[]⟩, .string ⟨#[]⟩, .int .i64 q12, .int .i64 q13], .agg #[.int .i64 q0, .int .i64 3, .int .i64 q2, .int .i64 q3, .int .i64 q4, (.slice A l.length c), .string q6, .int .i64 q7, .int .i64 q8, .int .i64 q9, .string q10, .string q11, .int .i64 q12, .int .i64 q13]] (.bool (decide ((namedP (⟨q0, 3, q2, q3, q4, l, q6, q7, q8, q9, q10, q11, q12, q13⟩ : RecP)) = (⟨q0, 3, q2, q3, q4, l, q6, q7, q8, q9, q10, q11, q12, q13⟩ : RecP)))) _ rfl rfl rfl (by simp only [List.map_toArray, List.map_cons, List.map_nil]; rfl) (fun w' hw' => rsames_calls (namedP (⟨q0, 3, q2, q3, q4, l, q6, q7, q8, q9, q10, q11, q12, q13⟩ : RecP)) (⟨q0, 3, q2, q3, q4, l, q6, q7, q8, q9, q10, q11, q12, q13⟩ : RecP) A A c c w' (Kd.C_below HC.out (below2 HB.out HB.out.size hw')) (Kd.C_below HC.out (below2 HB.out HB.out.size hw')) HCC.out HCC.out HL.out) ?_; rw [HQ.out]; simp only [Act.put, List.setIfInBounds_toArray, List.set_cons_zero, List.set_cons_succ]))
              refine wpQuiet_nil ?_
              intro wn hw'
              replace HB := Aside0.mk (below2 HB.out HB.out.size hw')
              clear hw'
              cases qq
              · go_wp2_with fail
                go_ret
                exact ⟨by rw [HF.out, if_neg (by rw [h0]; decide), if_neg (by rw [h1]; decide), if_pos h2, if_pos h3, if_pos h4, if_neg (by rw [h5]; decide)]; unfold finP; rw [HQ.out]; rfl, HB.out⟩
              · go_wp2_with fail
                go_ret
                exact ⟨by rw [HF.out, if_neg (by rw [h0]; decide), if_neg (by rw [h1]; decide), if_pos h2, if_pos h3, if_pos h4, if_neg (by rw [h5]; decide)]; unfold finP; rw [HQ.out]; rfl, HB.out⟩
set_option maxRecDepth 100000 in
set_option maxHeartbeats 4000000 in
theorem refchk_x (q1 : Int) (q0 q2 q3 q4 : Int) (A : Option Addr) (c : Nat) (l : List S67) (q6 : ByteArray) (q7 q8 q9 : Int) (q10 q11 : ByteArray) (q12 q13 : Int) (w : World) (hk : inB q1 3 = false) (hz : chkR (⟨q0, q1, q2, q3, q4, l, q6, q7, q8, q9, q10, q11, q12, q13⟩ : RecP) = 1) : Calls Try.prog 15 #[.agg #[.int .i64 q0, .int .i64 q1, .int .i64 q2, .int .i64 q3, .int .i64 q4, (.slice A l.length c), .string q6, .int .i64 q7, .int .i64 q8, .int .i64 q9, .string q10, .string q11, .int .i64 q12, .int .i64 q13]] w fun e w' => e = .returned (.int .i64 (chkR (⟨q0, q1, q2, q3, q4, l, q6, q7, q8, q9, q10, q11, q12, q13⟩ : RecP))) ∧ Below w.heap.size w w' := by
  have hu0 := Try.underlying28
  have hu1 := Try.underlying34
  have hu2 := Try.underlying24
  have hu3 := Try.underlying26
  have hu4 := Try.underlying67
  have HF := Lib.hid hz
  clear hz
  have HB : Aside0 (Below w.heap.size w (w.alloc (.cells #[.int .i64 q0, .int .i64 q1, .int .i64 q2, .int .i64 q3, .int .i64 q4, (.slice A l.length c), .string q6, .int .i64 q7, .int .i64 q8, .int .i64 q9, .string q10, .string q11, .int .i64 q12, .int .i64 q13] 28))) := ⟨below_alloc (Below.refl _ _) _⟩
  have HR : Aside0 (Blk (w.alloc (.cells #[.int .i64 q0, .int .i64 q1, .int .i64 q2, .int .i64 q3, .int .i64 q4, (.slice A l.length c), .string q6, .int .i64 q7, .int .i64 q8, .int .i64 q9, .string q10, .string q11, .int .i64 q12, .int .i64 q13] 28)) w.heap.size #[.int .i64 q0, .int .i64 q1, .int .i64 q2, .int .i64 q3, .int .i64 q4, (.slice A l.length c), .string q6, .int .i64 q7, .int .i64 q8, .int .i64 q9, .string q10, .string q11, .int .i64 q12, .int .i64 q13] 28) := ⟨Blk.new w _ _⟩
  have hk2 : decide (q1 < 0) = false → decide (3 < q1) = true := by
    intro h
    unfold inB at hk
    rw [Bool.and_eq_false_iff, decide_eq_false_iff_not, decide_eq_false_iff_not] at hk
    rw [decide_eq_false_iff_not] at h
    exact decide_eq_true (by omega)
  clear hk
  obtain ⟨d0, d1, d2, d3, d4, d5, d6, d7, d8, d9, d10, d11, d12, d13⟩ := cells14 HR.out
  go_enter Try.func15, Try.ntmps15
  cases h0 : decide (q0 < 0) with
  | true =>
    clear hk2
    go_wp2_with fail
    go_ret
    exact ⟨by rw [HF.out]; rfl, HB.out⟩
  | false =>
    cases h1 : decide (63 < q0) with
    | true =>
      clear hk2
      go_wp2_with fail
      go_ret
      exact ⟨by rw [HF.out]; rfl, HB.out⟩
    | false =>
      cases h2 : decide (q1 < 0) with
      | true =>
        clear hk2
        go_wp2_with fail
        go_ret
        exact ⟨by rw [HF.out]; rfl, HB.out⟩
      | false =>
        have h3 := hk2 h2
        clear hk2
        go_wp2_with fail
        go_ret
        exact ⟨by rw [HF.out]; rfl, HB.out⟩
theorem refchk_calls (r : RecP) (A : Option Addr) (c : Nat) (w : World) (hr : Kd.C k67 w A r.locs.length r.locs) (hl : r.locs.length ≤ 1000) (hc : r.locs.length ≤ c) (h6 : r.ekey.size ≤ 140737488355328) (h11 : r.key.size ≤ 140737488355328) : Calls Try.prog 15 #[.agg #[.int .i64 r.seq, .int .i64 r.kind, .int .i64 r.id, .int .i64 r.gen, .int .i64 r.len, (.slice A r.locs.length c), .string r.ekey, .int .i64 r.evol, .int .i64 r.eoff, .int .i64 r.elen, .string r.dig, .string r.key, .int .i64 r.frm, .int .i64 r.til]] w fun e w' => e = .returned (.int .i64 (chkR r)) ∧ Below w.heap.size w w' := by
  obtain ⟨q0, q1, q2, q3, q4, l, q6, q7, q8, q9, q10, q11, q12, q13⟩ := r
  by_cases k0 : q1 = 0
  · subst k0; exact refchk_0 q0 q2 q3 q4 A c l q6 q7 q8 q9 q10 q11 q12 q13 w hr hl hc h6 h11
  · by_cases k1 : q1 = 1
    · subst k1; exact refchk_1 q0 q2 q3 q4 A c l q6 q7 q8 q9 q10 q11 q12 q13 w hr hl hc h6 h11
    · by_cases k2 : q1 = 2
      · subst k2; exact refchk_2 q0 q2 q3 q4 A c l q6 q7 q8 q9 q10 q11 q12 q13 w hr hl hc h6 h11
      · by_cases k3 : q1 = 3
        · subst k3; exact refchk_3 q0 q2 q3 q4 A c l q6 q7 q8 q9 q10 q11 q12 q13 w hr hl hc h6 h11
        · refine refchk_x q1 q0 q2 q3 q4 A c l q6 q7 q8 q9 q10 q11 q12 q13 w ?_ ?_
          · unfold inB
            rw [Bool.and_eq_false_iff, decide_eq_false_iff_not, decide_eq_false_iff_not]
            omega
          · unfold chkR
            rw [if_neg (show ¬ q1 = 0 from k0), if_neg (show ¬ q1 = 1 from k1), if_neg (show ¬ q1 = 2 from k2), if_neg (show ¬ q1 = 3 from k3), ite_self]
/-- The reference's Check, in the form in which its callers take it. -/
def sluicegateref11_Check.f (a0_0 : Int) (a0_1 : Int) (a0_2 : Int) (a0_3 : Int) (a0_4 : Int) (l0_5 : List S67) (a0_6 : ByteArray) (a0_7 : Int) (a0_8 : Int) (a0_9 : Int) (a0_10 : ByteArray) (a0_11 : ByteArray) (a0_12 : Int) (a0_13 : Int) : Option Int := if l0_5.length ≤ 1000 ∧ a0_6.size ≤ 140737488355328 ∧ a0_11.size ≤ 140737488355328 then some (chkR ⟨a0_0, a0_1, a0_2, a0_3, a0_4, l0_5, a0_6, a0_7, a0_8, a0_9, a0_10, a0_11, a0_12, a0_13⟩) else none
theorem sluicegateref11_Check.calls (a0_0 : Int) (a0_1 : Int) (a0_2 : Int) (a0_3 : Int) (a0_4 : Int) (A0_5 : Option Addr) (c0_5 : Nat) (l0_5 : List S67) (a0_6 : ByteArray) (a0_7 : Int) (a0_8 : Int) (a0_9 : Int) (a0_10 : ByteArray) (a0_11 : ByteArray) (a0_12 : Int) (a0_13 : Int) (r : Int) (w : World) (hr0_5 : Kd.C k67 w A0_5 l0_5.length l0_5) (hc0_5 : l0_5.length ≤ c0_5) (h : sluicegateref11_Check.f a0_0 a0_1 a0_2 a0_3 a0_4 l0_5 a0_6 a0_7 a0_8 a0_9 a0_10 a0_11 a0_12 a0_13 = some r) :
    Calls Try.prog 15 #[.agg #[.int .i64 a0_0, .int .i64 a0_1, .int .i64 a0_2, .int .i64 a0_3, .int .i64 a0_4, (.slice A0_5 l0_5.length c0_5), .string a0_6, .int .i64 a0_7, .int .i64 a0_8, .int .i64 a0_9, .string a0_10, .string a0_11, .int .i64 a0_12, .int .i64 a0_13]] w fun e w' => e = .returned (.int .i64 r) ∧ Below w.heap.size w w' := by
  unfold sluicegateref11_Check.f at h
  split at h
  · rename_i hb
    have := refchk_calls ⟨a0_0, a0_1, a0_2, a0_3, a0_4, l0_5, a0_6, a0_7, a0_8, a0_9, a0_10, a0_11, a0_12, a0_13⟩ A0_5 c0_5 w hr0_5 hb.1 hc0_5 hb.2.1 hb.2.2
    rw [Option.some.inj h] at this
    exact this
  · cases h
end Go.Proofs.Ytkceobahefjlnaa
end
section
/- The reference's numbers and texts, told as plain functions. -/
namespace Go.Proofs.Ytkceobahefjlnaa
open Go.RowKit Go.Proofs.Ytkceobahefjlnaa.Q Go.Proofs.YtkceobahefjlnaaW.PrintWords Go.Proofs.YtkceobahefjlnaaW.PrintLast
theorem rnumber_loop (j : Nat) : ∀ (n k : Nat), n < 2 ^ 56 → n < 128 ^ (j + 1) → 2 * j + 2 ≤ k → sluicegateref05_Number.f k (n : Int) = some (B (enc n)) := by
  induction j with
  | zero =>
    intro n k h56 hn hk
    obtain ⟨k, rfl⟩ : ∃ m, k = m + 1 + 1 := ⟨k - 2, by omega⟩
    simp only [sluicegateref05_Number.f, sluicegateref05_Most.f, Option.bind_some]
    have e : decide ((n : Int) > 72057594037927935) = false := by simp; omega
    rw [if_neg (by omega), e]
    simp only [sluicegateref05_Number.j0]
    rw [if_neg (by decide), if_pos (by omega), enc_lt (by omega), ← nb_one n (by omega), strOfNums_nb]
  | succ j ih =>
    intro n k h56 hn hk
    obtain ⟨k, rfl⟩ : ∃ m, k = m + 1 + 1 := ⟨k - 2, by omega⟩
    simp only [sluicegateref05_Number.f, sluicegateref05_Most.f, Option.bind_some]
    have e : decide ((n : Int) > 72057594037927935) = false := by simp; omega
    rw [if_neg (by omega), e]
    simp only [sluicegateref05_Number.j0]
    rw [if_neg (by decide)]
    by_cases h : n < 128
    · rw [if_pos (by omega), enc_lt (by omega), ← nb_one n (by omega), strOfNums_nb]
    · rw [if_neg (by omega)]
      simp only [Option.bind_some]
      have e1 : wrap64 (Int.tdiv (n : Int) 128) = ((n / 128 : Nat) : Int) := by
        rw [Int.tdiv_eq_ediv_of_nonneg (by omega)]; unfold wrap64; omega
      have e2 : wrap64 (128 + Int.tmod (n : Int) 128) % 256 = ((128 + n % 128 : Nat) : Int) := by
        rw [Int.tmod_eq_emod_of_nonneg (by omega)]; unfold wrap64; omega
      have e3 : strOfNums [((128 + n % 128 : Nat) : Int)] = B [UInt8.ofNat (128 + n % 128)] := by
        rw [← strOfNums_nb]
        simp only [nb, List.map_cons, List.map_nil]
        rw [u8_toNat _ (by omega)]
      have hq : n / 128 < 128 ^ (j + 1) := by
        rw [Nat.pow_succ] at hn
        exact Nat.div_lt_of_lt_mul (by omega)
      have h8 := enc_len8 (m := n / 128) (by omega)
      rw [e1, e2, e3, ih (n / 128) k (by omega) hq (by omega)]
      simp only [Option.bind_some]
      rw [if_pos (by rw [B_size, B_size, List.length_singleton]; omega), B_append, enc_ge (n := n) (by omega), List.singleton_append]
theorem rnumber_f (n k : Nat) (h : n < 2 ^ 56) (hk : 20 ≤ k) : sluicegateref05_Number.f k (n : Int) = some (B (enc n)) := rnumber_loop 7 n k h (by simpa using h) (by omega)
theorem rtxt_f (s : List UInt8) (k : Nat) (h : s.length ≤ 140737488355328) (hk : 20 ≤ k) : sluicegateref05_Text.f k (B s) = some (B (txt s)) := by
  unfold sluicegateref05_Text.f
  rw [B_size, rnumber_f s.length k (by omega) hk]
  simp only [Option.bind_some]
  have := enc_len8 (m := s.length) (by omega)
  rw [if_pos (by rw [B_size]; omega), B_append]
  rfl
end Go.Proofs.Ytkceobahefjlnaa
/-! sluicegateref07.Write: its walk. -/
namespace Go.Proofs.Ytkceobahefjlnaa
open Go.RowKit Q Go.Proofs.YtkceobahefjlnaaW.PrintWords Go.Proofs.YtkceobahefjlnaaW.PrintLast Go.Proofs.YtkceobahefjlnaaW.PrintMore
theorem rnum_L (n : Nat) (h : n < 2 ^ 56) (w : World) : Calls Try.prog 29 #[.int .i64 (n : Int)] w fun e w' => e = .returned (.string (B (enc n))) ∧ Below w.heap.size w w' :=
  sluicegateref05_Number.calls 20 _ _ w (rnumber_f n 20 h (Nat.le_refl _))
theorem rtxt_L (s : List UInt8) (h : s.length ≤ 140737488355328) (w : World) : Calls Try.prog 30 #[.string (B s)] w fun e w' => e = .returned (.string (B (txt s))) ∧ Below w.heap.size w w' :=
  sluicegateref05_Text.calls 20 _ _ w (rtxt_f s 20 h (Nat.le_refl _))
end Go.Proofs.Ytkceobahefjlnaa
end
section
/- sluicegateref11.Write: its walk. -/
namespace Go.Proofs.Ytkceobahefjlnaa
open Go.RowKit Q Go.Proofs.YtkceobahefjlnaaW.PrintWords Go.Proofs.YtkceobahefjlnaaW.PrintLast Go.Proofs.YtkceobahefjlnaaW.PrintMore
set_option linter.unusedSimpArgs false
theorem rseal_L (x : List UInt8) (w : World) (h : x.length ≤ 1000) : Calls Try.prog 18 #[.string (B x)] w fun e w' => e = .returned (.string (B (sealL x))) ∧ Below w.heap.size w w' :=
  sluicegateref04_Seal.calls _ _ w (rseal_f x (by omega))
section
variable {ops : Array Oper} {W0 : World}
theorem q_cat {o : Oper} {rest : List Oper} {Q : Act → Prop} {a : Act} (x y : Operand) (N : Nat) (u v : List UInt8) (ho : o.op = .binOp .add 9 x y 9) (hN : o.dst = some N) (hg : o.guard = none) (hx : a.eval x = .string (B u)) (hy : a.eval y = .string (B v)) (hl : u.length + v.length ≤ 100000)
    (h : wpQuiet Try.prog ops (Below W0.heap.size W0) Q rest (a.put (some N) (.string (B (u ++ v))))) : wpQuiet Try.prog ops (Below W0.heap.size W0) Q (o :: rest) a := by
  refine q_val (.string (B (u ++ v))) (some N) hN (by unfold Region.wanted; rw [hg]) (fun w' _ => ?_) h
  have hs : ¬ 9223372036854775807 < (B u).size + (B v).size := by rw [B_size, B_size]; omega
  unfold execOp
  simp only [ho, hx, hy]
  have e := B_append u v
  go_simp
end
theorem encK2 (a b : Nat) : encK [a, b] 2 = enc a ++ enc b := by simp [encK]
theorem encK3 (a b c : Nat) : encK [a, b, c] 3 = enc a ++ enc b ++ enc c := by simp [encK]
theorem ld_sl (ad : Addr) (v : Value) (w : World) (h : w.cell? ad = some v) : (Instr.loadAt 22 (.pointer (some ad))).run Try.prog w = .ok v w := by
  go_simp
set_option maxRecDepth 100000 in
set_option maxHeartbeats 4000000 in
theorem rrw_0 (s vi vg vn : Nat) (A : Option Addr) (c : Nat) (l : List S67) (q6 : ByteArray) (q7 : Int) (eo el : Nat) (q10 q11 : ByteArray) (q12 q13 : Int) (w : World) (hr : Kd.C k67 w A l.length l) (hl : l.length ≤ 1000) (hc : l.length ≤ c) (h6 : q6.size ≤ 140737488355328) (h11 : q11.size ≤ 140737488355328) (hz : chkR (⟨(s : Int), 0, (vi : Int), (vg : Int), (vn : Int), l, q6, q7, (eo : Int), (el : Int), q10, q11, q12, q13⟩ : RecP) = 0) (hs : s ≤ 63) (hv : VolOk vi vg vn l) (hk : q6.data.toList.length ≤ 32) (ho : eo ≤ 384) (he : el ≤ 384) (hd : q10.size = 32) : Calls Try.prog 13 #[.agg #[.int .i64 (s : Int), .int .i64 0, .int .i64 (vi : Int), .int .i64 (vg : Int), .int .i64 (vn : Int), (.slice A l.length c), .string q6, .int .i64 q7, .int .i64 (eo : Int), .int .i64 (el : Int), .string q10, .string q11, .int .i64 q12, .int .i64 q13]] w fun e w' => e = .returned (.tuple #[.string (B (sealL (recT (⟨(s : Int), 0, (vi : Int), (vg : Int), (vn : Int), l, q6, q7, (eo : Int), (el : Int), q10, q11, q12, q13⟩ : RecP)))), .int .i64 0]) ∧ Below w.heap.size w w' := by
  have hu0 := Try.underlying28
  have hu1 := Try.underlying34
  have hu2 := Try.underlying24
  have hu3 := Try.underlying26
  have hu4 := Try.underlying67
  obtain ⟨kl, rfl⟩ := exB q6
  obtain ⟨dl, rfl⟩ := exB q10
  obtain ⟨res, hres⟩ : ∃ res, B (sealL (recT (⟨(s : Int), 0, (vi : Int), (vg : Int), (vn : Int), l, (B kl), q7, (eo : Int), (el : Int), (B dl), q11, q12, q13⟩ : RecP))) = res := ⟨_, rfl⟩
  rw [hres]
  have HRES := Lib.hid hres
  clear hres
  have HZ := Lib.hid hz
  have HC := Lib.hid hr
  have HL := Lib.hid hl
  have HCC := Lib.hid hc
  have H6 := Lib.hid h6
  have H11 := Lib.hid h11
  have HV := Lib.hid hv
  have HK := Lib.hid hk
  have HO := Lib.hid ho
  have HE := Lib.hid he
  have HDG := Lib.hid hd
  have hvi := hv.i.2
  have hvg := hv.g.2
  have hvn := hv.n.2
  clear hk ho he hd hv
  clear hz hr hl hc h6 h11
  have HB : Aside0 (Below w.heap.size w (w.alloc (.cells #[.int .i64 (s : Int), .int .i64 0, .int .i64 (vi : Int), .int .i64 (vg : Int), .int .i64 (vn : Int), (.slice A l.length c), .string (B kl), .int .i64 q7, .int .i64 (eo : Int), .int .i64 (el : Int), .string (B dl), .string q11, .int .i64 q12, .int .i64 q13] 28))) := ⟨below_alloc (Below.refl _ _) _⟩
  have HR : Aside0 (Blk (w.alloc (.cells #[.int .i64 (s : Int), .int .i64 0, .int .i64 (vi : Int), .int .i64 (vg : Int), .int .i64 (vn : Int), (.slice A l.length c), .string (B kl), .int .i64 q7, .int .i64 (eo : Int), .int .i64 (el : Int), .string (B dl), .string q11, .int .i64 q12, .int .i64 q13] 28)) w.heap.size #[.int .i64 (s : Int), .int .i64 0, .int .i64 (vi : Int), .int .i64 (vg : Int), .int .i64 (vn : Int), (.slice A l.length c), .string (B kl), .int .i64 q7, .int .i64 (eo : Int), .int .i64 (el : Int), .string (B dl), .string q11, .int .i64 q12, .int .i64 q13] 28) := ⟨Blk.new w _ _⟩
  obtain ⟨d0, d1, d2, d3, d4, d5, d6, d7, d8, d9, d10, d11, d12, d13⟩ := cells14 HR.out
  have hlt0 := HR.out.lt
  go_enter Try.func13, Try.ntmps13
  go_wp2_with fail
  clear d0 d1 d2 d3 d4 d5 d6 d7 d8 d9 d10 d11 d12 d13 hlt0
  have hq0 := refchk_calls (⟨(s : Int), 0, (vi : Int), (vg : Int), (vn : Int), l, (B kl), q7, (eo : Int), (el : Int), (B dl), q11, q12, q13⟩ : RecP) A c (w.alloc (.cells #[.int .i64 (s : Int), .int .i64 0, .int .i64 (vi : Int), .int .i64 (vg : Int), .int .i64 (vn : Int), (.slice A l.length c), .string (B kl), .int .i64 q7, .int .i64 (eo : Int), .int .i64 (el : Int), .string (B dl), .string q11, .int .i64 q12, .int .i64 q13] 28)) (Kd.C_below HC.out HB.out) HL.out HCC.out H6.out H11.out
  rw [HZ.out] at hq0
  refine Calls.mono hq0 ?_
  clear hq0
  rintro e wa ⟨rfl, b1⟩
  replace HB := Aside0.mk (below2 HB.out HB.out.size b1)
  replace HR := Aside0.mk (HR.out.keep b1)
  clear b1
  have l0 := enc_len8 (m := s) (by omega)
  have l1 := enc_len8 (m := 0) (by omega)
  obtain ⟨d0, d1, d2, d3, d4, d5, d6, d7, d8, d9, d10, d11, d12, d13⟩ := cells14 HR.out
  have hlt0 := HR.out.lt
  go_wp2_with fail
  refine region_below_tail 8 (by kernel_rfl) (by kernel_rfl) ?_
  simp only [List.take_succ_cons, List.take_zero, List.drop_succ_cons, List.drop_zero]
  repeat (first | (refine q_cat _ _ _ [83, 74] ?_ rfl rfl rfl ?_ ?_ ?_ ?_; rotate_left 1; (· rfl); (· rfl); (· (try simp only [List.length_append, List.length_cons, List.length_nil]); omega); simp only [Act.put, List.setIfInBounds_toArray, List.set_cons_zero, List.set_cons_succ]) | (refine q_cat _ _ _ ?_ ?_ rfl rfl rfl ?_ ?_ ?_ ?_; rotate_left 2; (· rfl); (· rfl); (· (try simp only [List.length_append, List.length_cons, List.length_nil]); omega); simp only [Act.put, List.setIfInBounds_toArray, List.set_cons_zero, List.set_cons_succ]) | go_big_quiet_step (fail) | (refine BigFrame.wpQuiet_want (by rfl) (fun K hK => ?_); go_big_quiet_op; refine ⟨_, fun _ _ => rfl, hK _ ?_⟩; clear hK K) | (refine q_ld 3 _ _ _ _ rfl rfl rfl rfl (ld_int _ _) (by assumption) (by assumption) ?_; simp only [Act.put, List.setIfInBounds_toArray, List.set_cons_zero, List.set_cons_succ]) | (refine q_ld 9 _ _ _ _ rfl rfl rfl rfl (ld_str _ _) (by assumption) (by assumption) ?_; simp only [Act.put, List.setIfInBounds_toArray, List.set_cons_zero, List.set_cons_succ]) | (refine q_ld 22 _ _ _ _ rfl rfl rfl rfl (ld_sl _ _) (by assumption) (by assumption) ?_; simp only [Act.put, List.setIfInBounds_toArray, List.set_cons_zero, List.set_cons_succ]) | (refine q_go (f := 29) Try.func29 (by kernel_rfl) rfl #[.int .i64 (s : Int)] _ _ rfl rfl rfl (by simp only [List.map_toArray, List.map_cons, List.map_nil]; rfl) (fun w' _ => rnum_L s (by omega) w') ?_; simp only [Act.put, List.setIfInBounds_toArray, List.set_cons_zero, List.set_cons_succ]) | (refine q_go (f := 29) Try.func29 (by kernel_rfl) rfl #[.int .i64 0] _ _ rfl rfl rfl (by simp only [List.map_toArray, List.map_cons, List.map_nil]; rfl) (fun w' _ => rnum_L 0 (by decide) w') ?_; simp only [Act.put, List.setIfInBounds_toArray, List.set_cons_zero, List.set_cons_succ]))
  refine wpQuiet_nil ?_
  intro w2 hw'
  replace HB := Aside0.mk (below2 HB.out HB.out.size hw')
  replace HR := Aside0.mk (HR.out.keep hw')
  clear hw'
  clear d0 d1 d2 d3 d4 d5 d6 d7 d8 d9 d10 d11 d12 d13 hlt0
  generalize hE1 : [83, 74] ++ enc s ++ enc 0 = a1
  have A1 : a1.length ≤ 18 := by rw [← hE1]; simp only [List.length_append, List.length_cons, List.length_nil]; omega
  have HE1 := Lib.hid hE1
  clear hE1 l0 l1
  generalize [83, 74] ++ enc s = z1
  have l0 := enc_len8 (m := vi) (by omega)
  have l1 := enc_len8 (m := vg) (by omega)
  have l2 := enc_len8 (m := vn) (by omega)
  obtain ⟨d0, d1, d2, d3, d4, d5, d6, d7, d8, d9, d10, d11, d12, d13⟩ := cells14 HR.out
  have hlt0 := HR.out.lt
  go_wp2_with fail
  clear d0 d1 d2 d3 d4 d5 d6 d7 d8 d9 d10 d11 d12 d13 hlt0
  have HV6 := Aside0.mk (Blk.new w2 #[.int .i64 (vi : Int), .int .i64 (vg : Int), .int .i64 (vn : Int), .slice A l.length c] 24)
  replace HB := Aside0.mk (below_alloc HB.out (.cells #[.int .i64 (vi : Int), .int .i64 (vg : Int), .int .i64 (vn : Int), .slice A l.length c] 24))
  replace HR := Aside0.mk (HR.out.alloc (.cells #[.int .i64 (vi : Int), .int .i64 (vg : Int), .int .i64 (vn : Int), .slice A l.length c] 24))
  obtain ⟨v0, v1, v2, v3⟩ := cells4 HV6.out
  have hlt6 := HV6.out.lt
  refine region_below_tail 13 (by kernel_rfl) (by kernel_rfl) ?_
  simp only [List.take_succ_cons, List.take_zero, List.drop_succ_cons, List.drop_zero]
  repeat (first | (refine q_cat _ _ _ [83, 74] ?_ rfl rfl rfl ?_ ?_ ?_ ?_; rotate_left 1; (· rfl); (· rfl); (· (try simp only [List.length_append, List.length_cons, List.length_nil]); omega); simp only [Act.put, List.setIfInBounds_toArray, List.set_cons_zero, List.set_cons_succ]) | (refine q_cat _ _ _ ?_ ?_ rfl rfl rfl ?_ ?_ ?_ ?_; rotate_left 2; (· rfl); (· rfl); (· (try simp only [List.length_append, List.length_cons, List.length_nil]); omega); simp only [Act.put, List.setIfInBounds_toArray, List.set_cons_zero, List.set_cons_succ]) | go_big_quiet_step (fail) | (refine BigFrame.wpQuiet_want (by rfl) (fun K hK => ?_); go_big_quiet_op; refine ⟨_, fun _ _ => rfl, hK _ ?_⟩; clear hK K) | (refine q_ld 3 _ _ _ _ rfl rfl rfl rfl (ld_int _ _) (by assumption) (by assumption) ?_; simp only [Act.put, List.setIfInBounds_toArray, List.set_cons_zero, List.set_cons_succ]) | (refine q_ld 9 _ _ _ _ rfl rfl rfl rfl (ld_str _ _) (by assumption) (by assumption) ?_; simp only [Act.put, List.setIfInBounds_toArray, List.set_cons_zero, List.set_cons_succ]) | (refine q_ld 22 _ _ _ _ rfl rfl rfl rfl (ld_sl _ _) (by assumption) (by assumption) ?_; simp only [Act.put, List.setIfInBounds_toArray, List.set_cons_zero, List.set_cons_succ]) | (refine q_go (f := 29) Try.func29 (by kernel_rfl) rfl #[.int .i64 (vi : Int)] _ _ rfl rfl rfl (by simp only [List.map_toArray, List.map_cons, List.map_nil]; rfl) (fun w' _ => rnum_L vi (by omega) w') ?_; simp only [Act.put, List.setIfInBounds_toArray, List.set_cons_zero, List.set_cons_succ]) | (refine q_go (f := 29) Try.func29 (by kernel_rfl) rfl #[.int .i64 (vg : Int)] _ _ rfl rfl rfl (by simp only [List.map_toArray, List.map_cons, List.map_nil]; rfl) (fun w' _ => rnum_L vg (by omega) w') ?_; simp only [Act.put, List.setIfInBounds_toArray, List.set_cons_zero, List.set_cons_succ]) | (refine q_go (f := 29) Try.func29 (by kernel_rfl) rfl #[.int .i64 (vn : Int)] _ _ rfl rfl rfl (by simp only [List.map_toArray, List.map_cons, List.map_nil]; rfl) (fun w' _ => rnum_L vn (by omega) w') ?_; simp only [Act.put, List.setIfInBounds_toArray, List.set_cons_zero, List.set_cons_succ]))
  refine wpQuiet_nil ?_
  intro w3 hw'
  replace HB := Aside0.mk (below2 HB.out HB.out.size hw')
  replace HR := Aside0.mk (HR.out.keep hw')
  replace HV6 := Aside0.mk (HV6.out.keep hw')
  clear hw'
  clear v0 v1 v2 v3 hlt6
  generalize w2.heap.size = g6 at HV6 ⊢
  generalize hE2 : a1 ++ enc vi ++ enc vg ++ enc vn = a2
  have A2 : a2.length ≤ 42 := by rw [← hE2]; simp only [List.length_append]; omega
  have HE2 := Lib.hid hE2
  clear hE2 l0 l1 l2 A1
  generalize a1 ++ enc vi ++ enc vg = z3
  generalize a1 ++ enc vi = z2
  go_wp2_with fail
  go_loopw [5, 7] (fun sv i wr => ∃ k : Nat, k ≤ 9 ∧ i = .int .i64 k ∧ sv = .string (B (a2 ++ locsT l k)) ∧ Aside0 (Below w.heap.size w wr) ∧ Aside0 (Blk wr w.heap.size #[.int .i64 (s : Int), .int .i64 0, .int .i64 (vi : Int), .int .i64 (vg : Int), .int .i64 (vn : Int), (.slice A l.length c), .string (B kl), .int .i64 q7, .int .i64 (eo : Int), .int .i64 (el : Int), .string (B dl), .string q11, .int .i64 q12, .int .i64 q13] 28) ∧ Aside0 (Blk wr g6 #[.int .i64 (vi : Int), .int .i64 (vg : Int), .int .i64 (vn : Int), .slice A l.length c] 24)) (fun _ i _ => 9 - (intOf i).toNat)
  case atStart => exact ⟨0, Nat.zero_le _, rfl, by rw [locsT, List.append_nil], HB, HR, HV6⟩
  case round =>
    clear HB HR HV6
    obtain ⟨k, hk, rfl, rfl, HB, HR, HV6⟩ := hrel
    by_cases hlt : k < 9
    · have hkl : k < l.length := by have := HV.out.nine; omega
      obtain ⟨ad, hA, k0, k1⟩ := at_T67 HC.out k (by omega) (by omega)
      rw [Int.toNat_natCast] at k0 k1
      have hKB := Nat.lt_of_lt_of_le (lt_cell k0) HB.out.size
      have hKB1 := Nat.lt_of_lt_of_le (lt_cell k1) HB.out.size
      have e0 := (HB.out.cell (lt_cell k0)).trans k0
      have e1 := (HB.out.cell (lt_cell k1)).trans k1
      clear k0 k1
      subst hA
      have hv9 := HV.out.locs k hlt
      have hz0 := Int.toNat_of_nonneg hv9.1.1
      have hz1 := Int.toNat_of_nonneg hv9.2.1
      have hb0 : (rd_T67 l k).f0.toNat ≤ 11 := by omega
      have hb1 : (rd_T67 l k).f1.toNat ≤ 47 := by omega
      have HLT := Lib.hid (show locsT l (k + 1) = locsT l k ++ encK [(rd_T67 l k).f0.toNat, (rd_T67 l k).f1.toNat] 2 from rfl)
      have hll := locsT_len HV.out k (by omega)
      rw [← hz0] at e0
      rw [← hz1] at e1
      generalize (rd_T67 l k).f0.toNat = x0 at *
      generalize (rd_T67 l k).f1.toNat = x1 at *
      clear hv9 hz0 hz1
      have l0 := enc_len8 (m := x0) (by omega)
      have l1 := enc_len8 (m := x1) (by omega)
      obtain ⟨v0, v1, v2, v3⟩ := cells4 HV6.out
      have hlt6 := HV6.out.lt
      go_wp2_with fail
      refine region_below_tail 17 (by kernel_rfl) (by kernel_rfl) ?_
      simp only [List.take_succ_cons, List.take_zero, List.drop_succ_cons, List.drop_zero]
      repeat (first | (refine q_cat _ _ _ [83, 74] ?_ rfl rfl rfl ?_ ?_ ?_ ?_; rotate_left 1; (· rfl); (· rfl); (· (try simp only [List.length_append, List.length_cons, List.length_nil]); omega); simp only [Act.put, List.setIfInBounds_toArray, List.set_cons_zero, List.set_cons_succ]) | (refine q_cat _ _ _ ?_ ?_ rfl rfl rfl ?_ ?_ ?_ ?_; rotate_left 2; (· rfl); (· rfl); (· (try simp only [List.length_append, List.length_cons, List.length_nil]); omega); simp only [Act.put, List.setIfInBounds_toArray, List.set_cons_zero, List.set_cons_succ]) | go_big_quiet_step (fail) | (refine BigFrame.wpQuiet_want (by rfl) (fun K hK => ?_); go_big_quiet_op; refine ⟨_, fun _ _ => rfl, hK _ ?_⟩; clear hK K) | (refine q_ld 3 _ _ _ _ rfl rfl rfl rfl (ld_int _ _) (by assumption) (by assumption) ?_; simp only [Act.put, List.setIfInBounds_toArray, List.set_cons_zero, List.set_cons_succ]) | (refine q_ld 9 _ _ _ _ rfl rfl rfl rfl (ld_str _ _) (by assumption) (by assumption) ?_; simp only [Act.put, List.setIfInBounds_toArray, List.set_cons_zero, List.set_cons_succ]) | (refine q_ld 22 _ _ _ _ rfl rfl rfl rfl (ld_sl _ _) (by assumption) (by assumption) ?_; simp only [Act.put, List.setIfInBounds_toArray, List.set_cons_zero, List.set_cons_succ]) | (refine q_go (f := 29) Try.func29 (by kernel_rfl) rfl #[.int .i64 (x0 : Int)] _ _ rfl rfl rfl (by simp only [List.map_toArray, List.map_cons, List.map_nil]; rfl) (fun w' _ => rnum_L x0 (by omega) w') ?_; simp only [Act.put, List.setIfInBounds_toArray, List.set_cons_zero, List.set_cons_succ]) | (refine q_go (f := 29) Try.func29 (by kernel_rfl) rfl #[.int .i64 (x1 : Int)] _ _ rfl rfl rfl (by simp only [List.map_toArray, List.map_cons, List.map_nil]; rfl) (fun w' _ => rnum_L x1 (by omega) w') ?_; simp only [Act.put, List.setIfInBounds_toArray, List.set_cons_zero, List.set_cons_succ]))
      refine wpQuiet_nil ?_
      intro w4 hw'
      replace HB := Aside0.mk (below2 HB.out HB.out.size hw')
      replace HR := Aside0.mk (HR.out.keep hw')
      replace HV6 := Aside0.mk (HV6.out.keep hw')
      clear hw'
      clear v0 v1 v2 v3 hlt6 e0 e1 hKB hKB1
      go_wp2_with fail
      go_roundw
      case rel => exact ⟨k + 1, by omega, by go_num, by rw [HLT.out, encK2]; simp [List.append_assoc], HB, HR, HV6⟩
      case measure => simp [intOf]; omega
    · obtain rfl : k = 9 := by omega
      obtain ⟨w3, rfl⟩ : ∃ x, x = wr := ⟨wr, rfl⟩
      have hll := locsT_len HV.out 9 (by decide)
      generalize hE3 : a2 ++ locsT l 9 = a3
      have A3 : a3.length ≤ 186 := by rw [← hE3, List.length_append]; omega
      have HE3 := Lib.hid hE3
      clear hE3 hll A2 hlt hk HV6
      have l0 := txt_le kl (by have := HK.out; rw [B_data] at this; omega)
      have hk := HK.out
      rw [B_data] at hk
      have l1 := enc_len8 (m := eo) (by have := HO.out; omega)
      have l2 := enc_len8 (m := el) (by have := HE.out; omega)
      have hdl := HDG.out
      rw [B_size] at hdl
      obtain ⟨d0, d1, d2, d3, d4, d5, d6, d7, d8, d9, d10, d11, d12, d13⟩ := cells14 HR.out
      have hlt0 := HR.out.lt
      go_wp2_with fail
      refine region_below_tail 20 (by kernel_rfl) (by kernel_rfl) ?_
      simp only [List.take_succ_cons, List.take_zero, List.drop_succ_cons, List.drop_zero]
      repeat (first | (refine q_cat _ _ _ [83, 74] ?_ rfl rfl rfl ?_ ?_ ?_ ?_; rotate_left 1; (· rfl); (· rfl); (· (try simp only [List.length_append, List.length_cons, List.length_nil]); omega); simp only [Act.put, List.setIfInBounds_toArray, List.set_cons_zero, List.set_cons_succ]) | (refine q_cat _ _ _ ?_ ?_ rfl rfl rfl ?_ ?_ ?_ ?_; rotate_left 2; (· rfl); (· rfl); (· (try simp only [List.length_append, List.length_cons, List.length_nil]); omega); simp only [Act.put, List.setIfInBounds_toArray, List.set_cons_zero, List.set_cons_succ]) | go_big_quiet_step (fail) | (refine BigFrame.wpQuiet_want (by rfl) (fun K hK => ?_); go_big_quiet_op; refine ⟨_, fun _ _ => rfl, hK _ ?_⟩; clear hK K) | (refine q_ld 3 _ _ _ _ rfl rfl rfl rfl (ld_int _ _) (by assumption) (by assumption) ?_; simp only [Act.put, List.setIfInBounds_toArray, List.set_cons_zero, List.set_cons_succ]) | (refine q_ld 9 _ _ _ _ rfl rfl rfl rfl (ld_str _ _) (by assumption) (by assumption) ?_; simp only [Act.put, List.setIfInBounds_toArray, List.set_cons_zero, List.set_cons_succ]) | (refine q_ld 22 _ _ _ _ rfl rfl rfl rfl (ld_sl _ _) (by assumption) (by assumption) ?_; simp only [Act.put, List.setIfInBounds_toArray, List.set_cons_zero, List.set_cons_succ]) | (refine q_go (f := 29) Try.func29 (by kernel_rfl) rfl #[.int .i64 (eo : Int)] _ _ rfl rfl rfl (by simp only [List.map_toArray, List.map_cons, List.map_nil]; rfl) (fun w' _ => rnum_L eo (by have := HO.out; omega) w') ?_; simp only [Act.put, List.setIfInBounds_toArray, List.set_cons_zero, List.set_cons_succ]) | (refine q_go (f := 29) Try.func29 (by kernel_rfl) rfl #[.int .i64 (el : Int)] _ _ rfl rfl rfl (by simp only [List.map_toArray, List.map_cons, List.map_nil]; rfl) (fun w' _ => rnum_L el (by have := HE.out; omega) w') ?_; simp only [Act.put, List.setIfInBounds_toArray, List.set_cons_zero, List.set_cons_succ]) | (refine q_go (f := 30) Try.func30 (by kernel_rfl) rfl #[.string (B kl)] _ _ rfl rfl rfl (by simp only [List.map_toArray, List.map_cons, List.map_nil]; rfl) (fun w' _ => rtxt_L kl (by omega) w') ?_; simp only [Act.put, List.setIfInBounds_toArray, List.set_cons_zero, List.set_cons_succ]))
      refine wpQuiet_nil ?_
      intro w5 hw'
      replace HB := Aside0.mk (below2 HB.out HB.out.size hw')
      replace HR := Aside0.mk (HR.out.keep hw')
      clear hw'
      clear d0 d1 d2 d3 d4 d5 d6 d7 d8 d9 d10 d11 d12 d13 hlt0
      generalize hE4 : a3 ++ txt kl ++ enc eo ++ enc el ++ dl = a4
      have A4 : a4.length ≤ 274 := by rw [← hE4]; simp only [List.length_append]; omega
      have HE4 := Lib.hid hE4
      clear hE4 l0 l1 l2 hk hdl A3
      obtain ⟨d0, d1, d2, d3, d4, d5, d6, d7, d8, d9, d10, d11, d12, d13⟩ := cells14 HR.out
      have hlt0 := HR.out.lt
      go_wp2_with fail
      clear d0 d1 d2 d3 d4 d5 d6 d7 d8 d9 d10 d11 d12 d13 hlt0
      refine Calls.mono (rseal_L a4 w5 (by omega)) ?_
      rintro e wz ⟨rfl, b1⟩
      replace HB := Aside0.mk (below2 HB.out HB.out.size b1)
      clear b1
      go_wp2_with fail
      go_ret2
      refine ⟨?_, HB.out⟩
      have hnine := HV.out.nine
      rw [← HRES.out, ← HE4.out, ← HE3.out, ← HE2.out, ← HE1.out]
      simp [recT, headT, volT, encK2, encK3, hnine, B_data]
set_option maxRecDepth 100000 in
set_option maxHeartbeats 4000000 in
theorem rrw_1 (s : Nat) (q2 q3 q4 : Int) (A : Option Addr) (c : Nat) (l : List S67) (q6 : ByteArray) (q7 q8 q9 : Int) (q10 q11 : ByteArray) (q12 q13 : Int) (w : World) (hr : Kd.C k67 w A l.length l) (hl : l.length ≤ 1000) (hc : l.length ≤ c) (h6 : q6.size ≤ 140737488355328) (h11 : q11.size ≤ 140737488355328) (hz : chkR (⟨(s : Int), 1, q2, q3, q4, l, q6, q7, q8, q9, q10, q11, q12, q13⟩ : RecP) = 0) (hs : s ≤ 63) (hk : q11.data.toList.length ≤ 32) : Calls Try.prog 13 #[.agg #[.int .i64 (s : Int), .int .i64 1, .int .i64 q2, .int .i64 q3, .int .i64 q4, (.slice A l.length c), .string q6, .int .i64 q7, .int .i64 q8, .int .i64 q9, .string q10, .string q11, .int .i64 q12, .int .i64 q13]] w fun e w' => e = .returned (.tuple #[.string (B (sealL (recT (⟨(s : Int), 1, q2, q3, q4, l, q6, q7, q8, q9, q10, q11, q12, q13⟩ : RecP)))), .int .i64 0]) ∧ Below w.heap.size w w' := by
  have hu0 := Try.underlying28
  have hu1 := Try.underlying34
  have hu2 := Try.underlying24
  have hu3 := Try.underlying26
  have hu4 := Try.underlying67
  obtain ⟨res, hres⟩ : ∃ res, B (sealL (recT (⟨(s : Int), 1, q2, q3, q4, l, q6, q7, q8, q9, q10, q11, q12, q13⟩ : RecP))) = res := ⟨_, rfl⟩
  rw [hres]
  have HRES := Lib.hid hres
  clear hres
  have HZ := Lib.hid hz
  have HC := Lib.hid hr
  have HL := Lib.hid hl
  have HCC := Lib.hid hc
  have H6 := Lib.hid h6
  have H11 := Lib.hid h11
  have HK := Lib.hid hk
  clear hk
  clear hz hr hl hc h6 h11
  have HB : Aside0 (Below w.heap.size w (w.alloc (.cells #[.int .i64 (s : Int), .int .i64 1, .int .i64 q2, .int .i64 q3, .int .i64 q4, (.slice A l.length c), .string q6, .int .i64 q7, .int .i64 q8, .int .i64 q9, .string q10, .string q11, .int .i64 q12, .int .i64 q13] 28))) := ⟨below_alloc (Below.refl _ _) _⟩
  have HR : Aside0 (Blk (w.alloc (.cells #[.int .i64 (s : Int), .int .i64 1, .int .i64 q2, .int .i64 q3, .int .i64 q4, (.slice A l.length c), .string q6, .int .i64 q7, .int .i64 q8, .int .i64 q9, .string q10, .string q11, .int .i64 q12, .int .i64 q13] 28)) w.heap.size #[.int .i64 (s : Int), .int .i64 1, .int .i64 q2, .int .i64 q3, .int .i64 q4, (.slice A l.length c), .string q6, .int .i64 q7, .int .i64 q8, .int .i64 q9, .string q10, .string q11, .int .i64 q12, .int .i64 q13] 28) := ⟨Blk.new w _ _⟩
  obtain ⟨d0, d1, d2, d3, d4, d5, d6, d7, d8, d9, d10, d11, d12, d13⟩ := cells14 HR.out
  have hlt0 := HR.out.lt
  go_enter Try.func13, Try.ntmps13
  go_wp2_with fail
  clear d0 d1 d2 d3 d4 d5 d6 d7 d8 d9 d10 d11 d12 d13 hlt0
  have hq0 := refchk_calls (⟨(s : Int), 1, q2, q3, q4, l, q6, q7, q8, q9, q10, q11, q12, q13⟩ : RecP) A c (w.alloc (.cells #[.int .i64 (s : Int), .int .i64 1, .int .i64 q2, .int .i64 q3, .int .i64 q4, (.slice A l.length c), .string q6, .int .i64 q7, .int .i64 q8, .int .i64 q9, .string q10, .string q11, .int .i64 q12, .int .i64 q13] 28)) (Kd.C_below HC.out HB.out) HL.out HCC.out H6.out H11.out
  rw [HZ.out] at hq0
  refine Calls.mono hq0 ?_
  clear hq0
  rintro e wa ⟨rfl, b1⟩
  replace HB := Aside0.mk (below2 HB.out HB.out.size b1)
  replace HR := Aside0.mk (HR.out.keep b1)
  clear b1
  have l0 := enc_len8 (m := s) (by omega)
  have l1 := enc_len8 (m := 1) (by omega)
  obtain ⟨d0, d1, d2, d3, d4, d5, d6, d7, d8, d9, d10, d11, d12, d13⟩ := cells14 HR.out
  have hlt0 := HR.out.lt
  go_wp2_with fail
  refine region_below_tail 8 (by kernel_rfl) (by kernel_rfl) ?_
  simp only [List.take_succ_cons, List.take_zero, List.drop_succ_cons, List.drop_zero]
  repeat (first | (refine q_cat _ _ _ [83, 74] ?_ rfl rfl rfl ?_ ?_ ?_ ?_; rotate_left 1; (· rfl); (· rfl); (· (try simp only [List.length_append, List.length_cons, List.length_nil]); omega); simp only [Act.put, List.setIfInBounds_toArray, List.set_cons_zero, List.set_cons_succ]) | (refine q_cat _ _ _ ?_ ?_ rfl rfl rfl ?_ ?_ ?_ ?_; rotate_left 2; (· rfl); (· rfl); (· (try simp only [List.length_append, List.length_cons, List.length_nil]); omega); simp only [Act.put, List.setIfInBounds_toArray, List.set_cons_zero, List.set_cons_succ]) | go_big_quiet_step (fail) | (refine BigFrame.wpQuiet_want (by rfl) (fun K hK => ?_); go_big_quiet_op; refine ⟨_, fun _ _ => rfl, hK _ ?_⟩; clear hK K) | (refine q_ld 3 _ _ _ _ rfl rfl rfl rfl (ld_int _ _) (by assumption) (by assumption) ?_; simp only [Act.put, List.setIfInBounds_toArray, List.set_cons_zero, List.set_cons_succ]) | (refine q_ld 9 _ _ _ _ rfl rfl rfl rfl (ld_str _ _) (by assumption) (by assumption) ?_; simp only [Act.put, List.setIfInBounds_toArray, List.set_cons_zero, List.set_cons_succ]) | (refine q_ld 22 _ _ _ _ rfl rfl rfl rfl (ld_sl _ _) (by assumption) (by assumption) ?_; simp only [Act.put, List.setIfInBounds_toArray, List.set_cons_zero, List.set_cons_succ]) | (refine q_go (f := 29) Try.func29 (by kernel_rfl) rfl #[.int .i64 (s : Int)] _ _ rfl rfl rfl (by simp only [List.map_toArray, List.map_cons, List.map_nil]; rfl) (fun w' _ => rnum_L s (by omega) w') ?_; simp only [Act.put, List.setIfInBounds_toArray, List.set_cons_zero, List.set_cons_succ]) | (refine q_go (f := 29) Try.func29 (by kernel_rfl) rfl #[.int .i64 1] _ _ rfl rfl rfl (by simp only [List.map_toArray, List.map_cons, List.map_nil]; rfl) (fun w' _ => rnum_L 1 (by decide) w') ?_; simp only [Act.put, List.setIfInBounds_toArray, List.set_cons_zero, List.set_cons_succ]))
  refine wpQuiet_nil ?_
  intro w2 hw'
  replace HB := Aside0.mk (below2 HB.out HB.out.size hw')
  replace HR := Aside0.mk (HR.out.keep hw')
  clear hw'
  clear d0 d1 d2 d3 d4 d5 d6 d7 d8 d9 d10 d11 d12 d13 hlt0
  generalize hE1 : [83, 74] ++ enc s ++ enc 1 = a1
  have A1 : a1.length ≤ 18 := by rw [← hE1]; simp only [List.length_append, List.length_cons, List.length_nil]; omega
  have HE1 := Lib.hid hE1
  clear hE1 l0 l1
  generalize [83, 74] ++ enc s = z1
  have ht := txt_le q11.data.toList (by have := HK.out; omega)
  have hk := HK.out
  have hs : ¬ 9223372036854775807 < (B a1).size + (B (txt q11.data.toList)).size := by rw [B_size, B_size]; omega
  have hcat := B_append a1 (txt q11.data.toList)
  obtain ⟨d0, d1, d2, d3, d4, d5, d6, d7, d8, d9, d10, d11, d12, d13⟩ := cells14 HR.out
  have hlt0 := HR.out.lt
  go_wp2_with fail
  clear d0 d1 d2 d3 d4 d5 d6 d7 d8 d9 d10 d11 d12 d13 hlt0
  have hx := rtxt_L q11.data.toList (by omega) w2
  rw [B_eta] at hx
  refine Calls.mono hx ?_
  clear hx
  rintro e w3 ⟨rfl, b1⟩
  replace HB := Aside0.mk (below2 HB.out HB.out.size b1)
  clear b1
  go_wp2_with fail
  refine Calls.mono (rseal_L (a1 ++ txt q11.data.toList) w3 (by rw [List.length_append]; omega)) ?_
  rintro e wz ⟨rfl, b1⟩
  replace HB := Aside0.mk (below2 HB.out HB.out.size b1)
  clear b1
  go_wp2_with fail
  go_ret2
  refine ⟨?_, HB.out⟩
  rw [← HRES.out, ← HE1.out]
  show _ = _
  simp [recT, headT, encK2]
set_option maxRecDepth 100000 in
set_option maxHeartbeats 4000000 in
theorem rrw_2 (s vi vg vn : Nat) (A : Option Addr) (c : Nat) (l : List S67) (q6 : ByteArray) (q7 q8 q9 : Int) (q10 q11 : ByteArray) (q12 q13 : Int) (w : World) (hr : Kd.C k67 w A l.length l) (hl : l.length ≤ 1000) (hc : l.length ≤ c) (h6 : q6.size ≤ 140737488355328) (h11 : q11.size ≤ 140737488355328) (hz : chkR (⟨(s : Int), 2, (vi : Int), (vg : Int), (vn : Int), l, q6, q7, q8, q9, q10, q11, q12, q13⟩ : RecP) = 0) (hs : s ≤ 63) (hv : VolOk vi vg vn l) : Calls Try.prog 13 #[.agg #[.int .i64 (s : Int), .int .i64 2, .int .i64 (vi : Int), .int .i64 (vg : Int), .int .i64 (vn : Int), (.slice A l.length c), .string q6, .int .i64 q7, .int .i64 q8, .int .i64 q9, .string q10, .string q11, .int .i64 q12, .int .i64 q13]] w fun e w' => e = .returned (.tuple #[.string (B (sealL (recT (⟨(s : Int), 2, (vi : Int), (vg : Int), (vn : Int), l, q6, q7, q8, q9, q10, q11, q12, q13⟩ : RecP)))), .int .i64 0]) ∧ Below w.heap.size w w' := by
  have hu0 := Try.underlying28
  have hu1 := Try.underlying34
  have hu2 := Try.underlying24
  have hu3 := Try.underlying26
  have hu4 := Try.underlying67
  obtain ⟨res, hres⟩ : ∃ res, B (sealL (recT (⟨(s : Int), 2, (vi : Int), (vg : Int), (vn : Int), l, q6, q7, q8, q9, q10, q11, q12, q13⟩ : RecP))) = res := ⟨_, rfl⟩
  rw [hres]
  have HRES := Lib.hid hres
  clear hres
  have HZ := Lib.hid hz
  have HC := Lib.hid hr
  have HL := Lib.hid hl
  have HCC := Lib.hid hc
  have H6 := Lib.hid h6
  have H11 := Lib.hid h11
  have HV := Lib.hid hv
  have hvi := hv.i.2
  have hvg := hv.g.2
  have hvn := hv.n.2
  clear hv
  clear hz hr hl hc h6 h11
  have HB : Aside0 (Below w.heap.size w (w.alloc (.cells #[.int .i64 (s : Int), .int .i64 2, .int .i64 (vi : Int), .int .i64 (vg : Int), .int .i64 (vn : Int), (.slice A l.length c), .string q6, .int .i64 q7, .int .i64 q8, .int .i64 q9, .string q10, .string q11, .int .i64 q12, .int .i64 q13] 28))) := ⟨below_alloc (Below.refl _ _) _⟩
  have HR : Aside0 (Blk (w.alloc (.cells #[.int .i64 (s : Int), .int .i64 2, .int .i64 (vi : Int), .int .i64 (vg : Int), .int .i64 (vn : Int), (.slice A l.length c), .string q6, .int .i64 q7, .int .i64 q8, .int .i64 q9, .string q10, .string q11, .int .i64 q12, .int .i64 q13] 28)) w.heap.size #[.int .i64 (s : Int), .int .i64 2, .int .i64 (vi : Int), .int .i64 (vg : Int), .int .i64 (vn : Int), (.slice A l.length c), .string q6, .int .i64 q7, .int .i64 q8, .int .i64 q9, .string q10, .string q11, .int .i64 q12, .int .i64 q13] 28) := ⟨Blk.new w _ _⟩
  obtain ⟨d0, d1, d2, d3, d4, d5, d6, d7, d8, d9, d10, d11, d12, d13⟩ := cells14 HR.out
  have hlt0 := HR.out.lt
  go_enter Try.func13, Try.ntmps13
  go_wp2_with fail
  clear d0 d1 d2 d3 d4 d5 d6 d7 d8 d9 d10 d11 d12 d13 hlt0
  have hq0 := refchk_calls (⟨(s : Int), 2, (vi : Int), (vg : Int), (vn : Int), l, q6, q7, q8, q9, q10, q11, q12, q13⟩ : RecP) A c (w.alloc (.cells #[.int .i64 (s : Int), .int .i64 2, .int .i64 (vi : Int), .int .i64 (vg : Int), .int .i64 (vn : Int), (.slice A l.length c), .string q6, .int .i64 q7, .int .i64 q8, .int .i64 q9, .string q10, .string q11, .int .i64 q12, .int .i64 q13] 28)) (Kd.C_below HC.out HB.out) HL.out HCC.out H6.out H11.out
  rw [HZ.out] at hq0
  refine Calls.mono hq0 ?_
  clear hq0
  rintro e wa ⟨rfl, b1⟩
  replace HB := Aside0.mk (below2 HB.out HB.out.size b1)
  replace HR := Aside0.mk (HR.out.keep b1)
  clear b1
  have l0 := enc_len8 (m := s) (by omega)
  have l1 := enc_len8 (m := 2) (by omega)
  obtain ⟨d0, d1, d2, d3, d4, d5, d6, d7, d8, d9, d10, d11, d12, d13⟩ := cells14 HR.out
  have hlt0 := HR.out.lt
  go_wp2_with fail
  refine region_below_tail 8 (by kernel_rfl) (by kernel_rfl) ?_
  simp only [List.take_succ_cons, List.take_zero, List.drop_succ_cons, List.drop_zero]
  repeat (first | (refine q_cat _ _ _ [83, 74] ?_ rfl rfl rfl ?_ ?_ ?_ ?_; rotate_left 1; (· rfl); (· rfl); (· (try simp only [List.length_append, List.length_cons, List.length_nil]); omega); simp only [Act.put, List.setIfInBounds_toArray, List.set_cons_zero, List.set_cons_succ]) | (refine q_cat _ _ _ ?_ ?_ rfl rfl rfl ?_ ?_ ?_ ?_; rotate_left 2; (· rfl); (· rfl); (· (try simp only [List.length_append, List.length_cons, List.length_nil]); omega); simp only [Act.put, List.setIfInBounds_toArray, List.set_cons_zero, List.set_cons_succ]) | go_big_quiet_step (fail) | (refine BigFrame.wpQuiet_want (by rfl) (fun K hK => ?_); go_big_quiet_op; refine ⟨_, fun _ _ => rfl, hK _ ?_⟩; clear hK K) | (refine q_ld 3 _ _ _ _ rfl rfl rfl rfl (ld_int _ _) (by assumption) (by assumption) ?_; simp only [Act.put, List.setIfInBounds_toArray, List.set_cons_zero, List.set_cons_succ]) | (refine q_ld 9 _ _ _ _ rfl rfl rfl rfl (ld_str _ _) (by assumption) (by assumption) ?_; simp only [Act.put, List.setIfInBounds_toArray, List.set_cons_zero, List.set_cons_succ]) | (refine q_ld 22 _ _ _ _ rfl rfl rfl rfl (ld_sl _ _) (by assumption) (by assumption) ?_; simp only [Act.put, List.setIfInBounds_toArray, List.set_cons_zero, List.set_cons_succ]) | (refine q_go (f := 29) Try.func29 (by kernel_rfl) rfl #[.int .i64 (s : Int)] _ _ rfl rfl rfl (by simp only [List.map_toArray, List.map_cons, List.map_nil]; rfl) (fun w' _ => rnum_L s (by omega) w') ?_; simp only [Act.put, List.setIfInBounds_toArray, List.set_cons_zero, List.set_cons_succ]) | (refine q_go (f := 29) Try.func29 (by kernel_rfl) rfl #[.int .i64 2] _ _ rfl rfl rfl (by simp only [List.map_toArray, List.map_cons, List.map_nil]; rfl) (fun w' _ => rnum_L 2 (by decide) w') ?_; simp only [Act.put, List.setIfInBounds_toArray, List.set_cons_zero, List.set_cons_succ]))
  refine wpQuiet_nil ?_
  intro w2 hw'
  replace HB := Aside0.mk (below2 HB.out HB.out.size hw')
  replace HR := Aside0.mk (HR.out.keep hw')
  clear hw'
  clear d0 d1 d2 d3 d4 d5 d6 d7 d8 d9 d10 d11 d12 d13 hlt0
  generalize hE1 : [83, 74] ++ enc s ++ enc 2 = a1
  have A1 : a1.length ≤ 18 := by rw [← hE1]; simp only [List.length_append, List.length_cons, List.length_nil]; omega
  have HE1 := Lib.hid hE1
  clear hE1 l0 l1
  generalize [83, 74] ++ enc s = z1
  have l0 := enc_len8 (m := vi) (by omega)
  have l1 := enc_len8 (m := vg) (by omega)
  have l2 := enc_len8 (m := vn) (by omega)
  obtain ⟨d0, d1, d2, d3, d4, d5, d6, d7, d8, d9, d10, d11, d12, d13⟩ := cells14 HR.out
  have hlt0 := HR.out.lt
  go_wp2_with fail
  clear d0 d1 d2 d3 d4 d5 d6 d7 d8 d9 d10 d11 d12 d13 hlt0
  have HV6 := Aside0.mk (Blk.new w2 #[.int .i64 (vi : Int), .int .i64 (vg : Int), .int .i64 (vn : Int), .slice A l.length c] 24)
  replace HB := Aside0.mk (below_alloc HB.out (.cells #[.int .i64 (vi : Int), .int .i64 (vg : Int), .int .i64 (vn : Int), .slice A l.length c] 24))
  replace HR := Aside0.mk (HR.out.alloc (.cells #[.int .i64 (vi : Int), .int .i64 (vg : Int), .int .i64 (vn : Int), .slice A l.length c] 24))
  obtain ⟨v0, v1, v2, v3⟩ := cells4 HV6.out
  have hlt6 := HV6.out.lt
  refine region_below_tail 13 (by kernel_rfl) (by kernel_rfl) ?_
  simp only [List.take_succ_cons, List.take_zero, List.drop_succ_cons, List.drop_zero]
  repeat (first | (refine q_cat _ _ _ [83, 74] ?_ rfl rfl rfl ?_ ?_ ?_ ?_; rotate_left 1; (· rfl); (· rfl); (· (try simp only [List.length_append, List.length_cons, List.length_nil]); omega); simp only [Act.put, List.setIfInBounds_toArray, List.set_cons_zero, List.set_cons_succ]) | (refine q_cat _ _ _ ?_ ?_ rfl rfl rfl ?_ ?_ ?_ ?_; rotate_left 2; (· rfl); (· rfl); (· (try simp only [List.length_append, List.length_cons, List.length_nil]); omega); simp only [Act.put, List.setIfInBounds_toArray, List.set_cons_zero, List.set_cons_succ]) | go_big_quiet_step (fail) | (refine BigFrame.wpQuiet_want (by rfl) (fun K hK => ?_); go_big_quiet_op; refine ⟨_, fun _ _ => rfl, hK _ ?_⟩; clear hK K) | (refine q_ld 3 _ _ _ _ rfl rfl rfl rfl (ld_int _ _) (by assumption) (by assumption) ?_; simp only [Act.put, List.setIfInBounds_toArray, List.set_cons_zero, List.set_cons_succ]) | (refine q_ld 9 _ _ _ _ rfl rfl rfl rfl (ld_str _ _) (by assumption) (by assumption) ?_; simp only [Act.put, List.setIfInBounds_toArray, List.set_cons_zero, List.set_cons_succ]) | (refine q_ld 22 _ _ _ _ rfl rfl rfl rfl (ld_sl _ _) (by assumption) (by assumption) ?_; simp only [Act.put, List.setIfInBounds_toArray, List.set_cons_zero, List.set_cons_succ]) | (refine q_go (f := 29) Try.func29 (by kernel_rfl) rfl #[.int .i64 (vi : Int)] _ _ rfl rfl rfl (by simp only [List.map_toArray, List.map_cons, List.map_nil]; rfl) (fun w' _ => rnum_L vi (by omega) w') ?_; simp only [Act.put, List.setIfInBounds_toArray, List.set_cons_zero, List.set_cons_succ]) | (refine q_go (f := 29) Try.func29 (by kernel_rfl) rfl #[.int .i64 (vg : Int)] _ _ rfl rfl rfl (by simp only [List.map_toArray, List.map_cons, List.map_nil]; rfl) (fun w' _ => rnum_L vg (by omega) w') ?_; simp only [Act.put, List.setIfInBounds_toArray, List.set_cons_zero, List.set_cons_succ]) | (refine q_go (f := 29) Try.func29 (by kernel_rfl) rfl #[.int .i64 (vn : Int)] _ _ rfl rfl rfl (by simp only [List.map_toArray, List.map_cons, List.map_nil]; rfl) (fun w' _ => rnum_L vn (by omega) w') ?_; simp only [Act.put, List.setIfInBounds_toArray, List.set_cons_zero, List.set_cons_succ]))
  refine wpQuiet_nil ?_
  intro w3 hw'
  replace HB := Aside0.mk (below2 HB.out HB.out.size hw')
  replace HR := Aside0.mk (HR.out.keep hw')
  replace HV6 := Aside0.mk (HV6.out.keep hw')
  clear hw'
  clear v0 v1 v2 v3 hlt6
  generalize w2.heap.size = g6 at HV6 ⊢
  generalize hE2 : a1 ++ enc vi ++ enc vg ++ enc vn = a2
  have A2 : a2.length ≤ 42 := by rw [← hE2]; simp only [List.length_append]; omega
  have HE2 := Lib.hid hE2
  clear hE2 l0 l1 l2 A1
  generalize a1 ++ enc vi ++ enc vg = z3
  generalize a1 ++ enc vi = z2
  go_wp2_with fail
  go_loopw [5, 7] (fun sv i wr => ∃ k : Nat, k ≤ 9 ∧ i = .int .i64 k ∧ sv = .string (B (a2 ++ locsT l k)) ∧ Aside0 (Below w.heap.size w wr) ∧ Aside0 (Blk wr w.heap.size #[.int .i64 (s : Int), .int .i64 2, .int .i64 (vi : Int), .int .i64 (vg : Int), .int .i64 (vn : Int), (.slice A l.length c), .string q6, .int .i64 q7, .int .i64 q8, .int .i64 q9, .string q10, .string q11, .int .i64 q12, .int .i64 q13] 28) ∧ Aside0 (Blk wr g6 #[.int .i64 (vi : Int), .int .i64 (vg : Int), .int .i64 (vn : Int), .slice A l.length c] 24)) (fun _ i _ => 9 - (intOf i).toNat)
  case atStart => exact ⟨0, Nat.zero_le _, rfl, by rw [locsT, List.append_nil], HB, HR, HV6⟩
  case round =>
    clear HB HR HV6
    obtain ⟨k, hk, rfl, rfl, HB, HR, HV6⟩ := hrel
    by_cases hlt : k < 9
    · have hkl : k < l.length := by have := HV.out.nine; omega
      obtain ⟨ad, hA, k0, k1⟩ := at_T67 HC.out k (by omega) (by omega)
      rw [Int.toNat_natCast] at k0 k1
      have hKB := Nat.lt_of_lt_of_le (lt_cell k0) HB.out.size
      have hKB1 := Nat.lt_of_lt_of_le (lt_cell k1) HB.out.size
      have e0 := (HB.out.cell (lt_cell k0)).trans k0
      have e1 := (HB.out.cell (lt_cell k1)).trans k1
      clear k0 k1
      subst hA
      have hv9 := HV.out.locs k hlt
      have hz0 := Int.toNat_of_nonneg hv9.1.1
      have hz1 := Int.toNat_of_nonneg hv9.2.1
      have hb0 : (rd_T67 l k).f0.toNat ≤ 11 := by omega
      have hb1 : (rd_T67 l k).f1.toNat ≤ 47 := by omega
      have HLT := Lib.hid (show locsT l (k + 1) = locsT l k ++ encK [(rd_T67 l k).f0.toNat, (rd_T67 l k).f1.toNat] 2 from rfl)
      have hll := locsT_len HV.out k (by omega)
      rw [← hz0] at e0
      rw [← hz1] at e1
      generalize (rd_T67 l k).f0.toNat = x0 at *
      generalize (rd_T67 l k).f1.toNat = x1 at *
      clear hv9 hz0 hz1
      have l0 := enc_len8 (m := x0) (by omega)
      have l1 := enc_len8 (m := x1) (by omega)
      obtain ⟨v0, v1, v2, v3⟩ := cells4 HV6.out
      have hlt6 := HV6.out.lt
      go_wp2_with fail
      refine region_below_tail 17 (by kernel_rfl) (by kernel_rfl) ?_
      simp only [List.take_succ_cons, List.take_zero, List.drop_succ_cons, List.drop_zero]
      repeat (first | (refine q_cat _ _ _ [83, 74] ?_ rfl rfl rfl ?_ ?_ ?_ ?_; rotate_left 1; (· rfl); (· rfl); (· (try simp only [List.length_append, List.length_cons, List.length_nil]); omega); simp only [Act.put, List.setIfInBounds_toArray, List.set_cons_zero, List.set_cons_succ]) | (refine q_cat _ _ _ ?_ ?_ rfl rfl rfl ?_ ?_ ?_ ?_; rotate_left 2; (· rfl); (· rfl); (· (try simp only [List.length_append, List.length_cons, List.length_nil]); omega); simp only [Act.put, List.setIfInBounds_toArray, List.set_cons_zero, List.set_cons_succ]) | go_big_quiet_step (fail) | (refine BigFrame.wpQuiet_want (by rfl) (fun K hK => ?_); go_big_quiet_op; refine ⟨_, fun _ _ => rfl, hK _ ?_⟩; clear hK K) | (refine q_ld 3 _ _ _ _ rfl rfl rfl rfl (ld_int _ _) (by assumption) (by assumption) ?_; simp only [Act.put, List.setIfInBounds_toArray, List.set_cons_zero, List.set_cons_succ]) | (refine q_ld 9 _ _ _ _ rfl rfl rfl rfl (ld_str _ _) (by assumption) (by assumption) ?_; simp only [Act.put, List.setIfInBounds_toArray, List.set_cons_zero, List.set_cons_succ]) | (refine q_ld 22 _ _ _ _ rfl rfl rfl rfl (ld_sl _ _) (by assumption) (by assumption) ?_; simp only [Act.put, List.setIfInBounds_toArray, List.set_cons_zero, List.set_cons_succ]) | (refine q_go (f := 29) Try.func29 (by kernel_rfl) rfl #[.int .i64 (x0 : Int)] _ _ rfl rfl rfl (by simp only [List.map_toArray, List.map_cons, List.map_nil]; rfl) (fun w' _ => rnum_L x0 (by omega) w') ?_; simp only [Act.put, List.setIfInBounds_toArray, List.set_cons_zero, List.set_cons_succ]) | (refine q_go (f := 29) Try.func29 (by kernel_rfl) rfl #[.int .i64 (x1 : Int)] _ _ rfl rfl rfl (by simp only [List.map_toArray, List.map_cons, List.map_nil]; rfl) (fun w' _ => rnum_L x1 (by omega) w') ?_; simp only [Act.put, List.setIfInBounds_toArray, List.set_cons_zero, List.set_cons_succ]))
      refine wpQuiet_nil ?_
      intro w4 hw'
      replace HB := Aside0.mk (below2 HB.out HB.out.size hw')
      replace HR := Aside0.mk (HR.out.keep hw')
      replace HV6 := Aside0.mk (HV6.out.keep hw')
      clear hw'
      clear v0 v1 v2 v3 hlt6 e0 e1 hKB hKB1
      go_wp2_with fail
      go_roundw
      case rel => exact ⟨k + 1, by omega, by go_num, by rw [HLT.out, encK2]; simp [List.append_assoc], HB, HR, HV6⟩
      case measure => simp [intOf]; omega
    · obtain rfl : k = 9 := by omega
      obtain ⟨w3, rfl⟩ : ∃ x, x = wr := ⟨wr, rfl⟩
      have hll := locsT_len HV.out 9 (by decide)
      generalize hE3 : a2 ++ locsT l 9 = a3
      have A3 : a3.length ≤ 186 := by rw [← hE3, List.length_append]; omega
      have HE3 := Lib.hid hE3
      clear hE3 hll A2 hlt hk HV6
      obtain ⟨d0, d1, d2, d3, d4, d5, d6, d7, d8, d9, d10, d11, d12, d13⟩ := cells14 HR.out
      have hlt0 := HR.out.lt
      go_wp2_with fail
      clear d0 d1 d2 d3 d4 d5 d6 d7 d8 d9 d10 d11 d12 d13 hlt0
      refine Calls.mono (rseal_L a3 w3 (by omega)) ?_
      rintro e wz ⟨rfl, b1⟩
      replace HB := Aside0.mk (below2 HB.out HB.out.size b1)
      clear b1
      go_wp2_with fail
      go_ret2
      refine ⟨?_, HB.out⟩
      have hnine := HV.out.nine
      rw [← HRES.out, ← HE3.out, ← HE2.out, ← HE1.out]
      simp [recT, headT, volT, encK2, encK3, hnine, B_data]
set_option maxRecDepth 100000 in
set_option maxHeartbeats 4000000 in
theorem rrw_3 (s vi vg vn : Nat) (A : Option Addr) (c : Nat) (l : List S67) (q6 : ByteArray) (q7 q8 q9 : Int) (q10 q11 : ByteArray) (fr ti : Nat) (w : World) (hr : Kd.C k67 w A l.length l) (hl : l.length ≤ 1000) (hc : l.length ≤ c) (h6 : q6.size ≤ 140737488355328) (h11 : q11.size ≤ 140737488355328) (hz : chkR (⟨(s : Int), 3, (vi : Int), (vg : Int), (vn : Int), l, q6, q7, q8, q9, q10, q11, (fr : Int), (ti : Int)⟩ : RecP) = 0) (hs : s ≤ 63) (hv : VolOk vi vg vn l) (hf : fr ≤ 1099511627776) (ht : ti ≤ 1099511627776) : Calls Try.prog 13 #[.agg #[.int .i64 (s : Int), .int .i64 3, .int .i64 (vi : Int), .int .i64 (vg : Int), .int .i64 (vn : Int), (.slice A l.length c), .string q6, .int .i64 q7, .int .i64 q8, .int .i64 q9, .string q10, .string q11, .int .i64 (fr : Int), .int .i64 (ti : Int)]] w fun e w' => e = .returned (.tuple #[.string (B (sealL (recT (⟨(s : Int), 3, (vi : Int), (vg : Int), (vn : Int), l, q6, q7, q8, q9, q10, q11, (fr : Int), (ti : Int)⟩ : RecP)))), .int .i64 0]) ∧ Below w.heap.size w w' := by
  have hu0 := Try.underlying28
  have hu1 := Try.underlying34
  have hu2 := Try.underlying24
  have hu3 := Try.underlying26
  have hu4 := Try.underlying67
  obtain ⟨res, hres⟩ : ∃ res, B (sealL (recT (⟨(s : Int), 3, (vi : Int), (vg : Int), (vn : Int), l, q6, q7, q8, q9, q10, q11, (fr : Int), (ti : Int)⟩ : RecP))) = res := ⟨_, rfl⟩
  rw [hres]
  have HRES := Lib.hid hres
  clear hres
  have HZ := Lib.hid hz
  have HC := Lib.hid hr
  have HL := Lib.hid hl
  have HCC := Lib.hid hc
  have H6 := Lib.hid h6
  have H11 := Lib.hid h11
  have HV := Lib.hid hv
  have HFR := Lib.hid hf
  have HTI := Lib.hid ht
  have hvi := hv.i.2
  have hvg := hv.g.2
  have hvn := hv.n.2
  clear hf ht hv
  clear hz hr hl hc h6 h11
  have HB : Aside0 (Below w.heap.size w (w.alloc (.cells #[.int .i64 (s : Int), .int .i64 3, .int .i64 (vi : Int), .int .i64 (vg : Int), .int .i64 (vn : Int), (.slice A l.length c), .string q6, .int .i64 q7, .int .i64 q8, .int .i64 q9, .string q10, .string q11, .int .i64 (fr : Int), .int .i64 (ti : Int)] 28))) := ⟨below_alloc (Below.refl _ _) _⟩
  have HR : Aside0 (Blk (w.alloc (.cells #[.int .i64 (s : Int), .int .i64 3, .int .i64 (vi : Int), .int .i64 (vg : Int), .int .i64 (vn : Int), (.slice A l.length c), .string q6, .int .i64 q7, .int .i64 q8, .int .i64 q9, .string q10, .string q11, .int .i64 (fr : Int), .int .i64 (ti : Int)] 28)) w.heap.size #[.int .i64 (s : Int), .int .i64 3, .int .i64 (vi : Int), .int .i64 (vg : Int), .int .i64 (vn : Int), (.slice A l.length c), .string q6, .int .i64 q7, .int .i64 q8, .int .i64 q9, .string q10, .string q11, .int .i64 (fr : Int), .int .i64 (ti : Int)] 28) := ⟨Blk.new w _ _⟩
  obtain ⟨d0, d1, d2, d3, d4, d5, d6, d7, d8, d9, d10, d11, d12, d13⟩ := cells14 HR.out
  have hlt0 := HR.out.lt
  go_enter Try.func13, Try.ntmps13
  go_wp2_with fail
  clear d0 d1 d2 d3 d4 d5 d6 d7 d8 d9 d10 d11 d12 d13 hlt0
  have hq0 := refchk_calls (⟨(s : Int), 3, (vi : Int), (vg : Int), (vn : Int), l, q6, q7, q8, q9, q10, q11, (fr : Int), (ti : Int)⟩ : RecP) A c (w.alloc (.cells #[.int .i64 (s : Int), .int .i64 3, .int .i64 (vi : Int), .int .i64 (vg : Int), .int .i64 (vn : Int), (.slice A l.length c), .string q6, .int .i64 q7, .int .i64 q8, .int .i64 q9, .string q10, .string q11, .int .i64 (fr : Int), .int .i64 (ti : Int)] 28)) (Kd.C_below HC.out HB.out) HL.out HCC.out H6.out H11.out
  rw [HZ.out] at hq0
  refine Calls.mono hq0 ?_
  clear hq0
  rintro e wa ⟨rfl, b1⟩
  replace HB := Aside0.mk (below2 HB.out HB.out.size b1)
  replace HR := Aside0.mk (HR.out.keep b1)
  clear b1
  have l0 := enc_len8 (m := s) (by omega)
  have l1 := enc_len8 (m := 3) (by omega)
  obtain ⟨d0, d1, d2, d3, d4, d5, d6, d7, d8, d9, d10, d11, d12, d13⟩ := cells14 HR.out
  have hlt0 := HR.out.lt
  go_wp2_with fail
  refine region_below_tail 8 (by kernel_rfl) (by kernel_rfl) ?_
  simp only [List.take_succ_cons, List.take_zero, List.drop_succ_cons, List.drop_zero]
  repeat (first | (refine q_cat _ _ _ [83, 74] ?_ rfl rfl rfl ?_ ?_ ?_ ?_; rotate_left 1; (· rfl); (· rfl); (· (try simp only [List.length_append, List.length_cons, List.length_nil]); omega); simp only [Act.put, List.setIfInBounds_toArray, List.set_cons_zero, List.set_cons_succ]) | (refine q_cat _ _ _ ?_ ?_ rfl rfl rfl ?_ ?_ ?_ ?_; rotate_left 2; (· rfl); (· rfl); (· (try simp only [List.length_append, List.length_cons, List.length_nil]); omega); simp only [Act.put, List.setIfInBounds_toArray, List.set_cons_zero, List.set_cons_succ]) | go_big_quiet_step (fail) | (refine BigFrame.wpQuiet_want (by rfl) (fun K hK => ?_); go_big_quiet_op; refine ⟨_, fun _ _ => rfl, hK _ ?_⟩; clear hK K) | (refine q_ld 3 _ _ _ _ rfl rfl rfl rfl (ld_int _ _) (by assumption) (by assumption) ?_; simp only [Act.put, List.setIfInBounds_toArray, List.set_cons_zero, List.set_cons_succ]) | (refine q_ld 9 _ _ _ _ rfl rfl rfl rfl (ld_str _ _) (by assumption) (by assumption) ?_; simp only [Act.put, List.setIfInBounds_toArray, List.set_cons_zero, List.set_cons_succ]) | (refine q_ld 22 _ _ _ _ rfl rfl rfl rfl (ld_sl _ _) (by assumption) (by assumption) ?_; simp only [Act.put, List.setIfInBounds_toArray, List.set_cons_zero, List.set_cons_succ]) | (refine q_go (f := 29) Try.func29 (by kernel_rfl) rfl #[.int .i64 (s : Int)] _ _ rfl rfl rfl (by simp only [List.map_toArray, List.map_cons, List.map_nil]; rfl) (fun w' _ => rnum_L s (by omega) w') ?_; simp only [Act.put, List.setIfInBounds_toArray, List.set_cons_zero, List.set_cons_succ]) | (refine q_go (f := 29) Try.func29 (by kernel_rfl) rfl #[.int .i64 3] _ _ rfl rfl rfl (by simp only [List.map_toArray, List.map_cons, List.map_nil]; rfl) (fun w' _ => rnum_L 3 (by decide) w') ?_; simp only [Act.put, List.setIfInBounds_toArray, List.set_cons_zero, List.set_cons_succ]))
  refine wpQuiet_nil ?_
  intro w2 hw'
  replace HB := Aside0.mk (below2 HB.out HB.out.size hw')
  replace HR := Aside0.mk (HR.out.keep hw')
  clear hw'
  clear d0 d1 d2 d3 d4 d5 d6 d7 d8 d9 d10 d11 d12 d13 hlt0
  generalize hE1 : [83, 74] ++ enc s ++ enc 3 = a1
  have A1 : a1.length ≤ 18 := by rw [← hE1]; simp only [List.length_append, List.length_cons, List.length_nil]; omega
  have HE1 := Lib.hid hE1
  clear hE1 l0 l1
  generalize [83, 74] ++ enc s = z1
  have l0 := enc_len8 (m := vi) (by omega)
  have l1 := enc_len8 (m := vg) (by omega)
  have l2 := enc_len8 (m := vn) (by omega)
  obtain ⟨d0, d1, d2, d3, d4, d5, d6, d7, d8, d9, d10, d11, d12, d13⟩ := cells14 HR.out
  have hlt0 := HR.out.lt
  go_wp2_with fail
  clear d0 d1 d2 d3 d4 d5 d6 d7 d8 d9 d10 d11 d12 d13 hlt0
  have HV6 := Aside0.mk (Blk.new w2 #[.int .i64 (vi : Int), .int .i64 (vg : Int), .int .i64 (vn : Int), .slice A l.length c] 24)
  replace HB := Aside0.mk (below_alloc HB.out (.cells #[.int .i64 (vi : Int), .int .i64 (vg : Int), .int .i64 (vn : Int), .slice A l.length c] 24))
  replace HR := Aside0.mk (HR.out.alloc (.cells #[.int .i64 (vi : Int), .int .i64 (vg : Int), .int .i64 (vn : Int), .slice A l.length c] 24))
  obtain ⟨v0, v1, v2, v3⟩ := cells4 HV6.out
  have hlt6 := HV6.out.lt
  refine region_below_tail 13 (by kernel_rfl) (by kernel_rfl) ?_
  simp only [List.take_succ_cons, List.take_zero, List.drop_succ_cons, List.drop_zero]
  repeat (first | (refine q_cat _ _ _ [83, 74] ?_ rfl rfl rfl ?_ ?_ ?_ ?_; rotate_left 1; (· rfl); (· rfl); (· (try simp only [List.length_append, List.length_cons, List.length_nil]); omega); simp only [Act.put, List.setIfInBounds_toArray, List.set_cons_zero, List.set_cons_succ]) | (refine q_cat _ _ _ ?_ ?_ rfl rfl rfl ?_ ?_ ?_ ?_; rotate_left 2; (· rfl); (· rfl); (· (try simp only [List.length_append, List.length_cons, List.length_nil]); omega); simp only [Act.put, List.setIfInBounds_toArray, List.set_cons_zero, List.set_cons_succ]) | go_big_quiet_step (fail) | (refine BigFrame.wpQuiet_want (by rfl) (fun K hK => ?_); go_big_quiet_op; refine ⟨_, fun _ _ => rfl, hK _ ?_⟩; clear hK K) | (refine q_ld 3 _ _ _ _ rfl rfl rfl rfl (ld_int _ _) (by assumption) (by assumption) ?_; simp only [Act.put, List.setIfInBounds_toArray, List.set_cons_zero, List.set_cons_succ]) | (refine q_ld 9 _ _ _ _ rfl rfl rfl rfl (ld_str _ _) (by assumption) (by assumption) ?_; simp only [Act.put, List.setIfInBounds_toArray, List.set_cons_zero, List.set_cons_succ]) | (refine q_ld 22 _ _ _ _ rfl rfl rfl rfl (ld_sl _ _) (by assumption) (by assumption) ?_; simp only [Act.put, List.setIfInBounds_toArray, List.set_cons_zero, List.set_cons_succ]) | (refine q_go (f := 29) Try.func29 (by kernel_rfl) rfl #[.int .i64 (vi : Int)] _ _ rfl rfl rfl (by simp only [List.map_toArray, List.map_cons, List.map_nil]; rfl) (fun w' _ => rnum_L vi (by omega) w') ?_; simp only [Act.put, List.setIfInBounds_toArray, List.set_cons_zero, List.set_cons_succ]) | (refine q_go (f := 29) Try.func29 (by kernel_rfl) rfl #[.int .i64 (vg : Int)] _ _ rfl rfl rfl (by simp only [List.map_toArray, List.map_cons, List.map_nil]; rfl) (fun w' _ => rnum_L vg (by omega) w') ?_; simp only [Act.put, List.setIfInBounds_toArray, List.set_cons_zero, List.set_cons_succ]) | (refine q_go (f := 29) Try.func29 (by kernel_rfl) rfl #[.int .i64 (vn : Int)] _ _ rfl rfl rfl (by simp only [List.map_toArray, List.map_cons, List.map_nil]; rfl) (fun w' _ => rnum_L vn (by omega) w') ?_; simp only [Act.put, List.setIfInBounds_toArray, List.set_cons_zero, List.set_cons_succ]))
  refine wpQuiet_nil ?_
  intro w3 hw'
  replace HB := Aside0.mk (below2 HB.out HB.out.size hw')
  replace HR := Aside0.mk (HR.out.keep hw')
  replace HV6 := Aside0.mk (HV6.out.keep hw')
  clear hw'
  clear v0 v1 v2 v3 hlt6
  generalize w2.heap.size = g6 at HV6 ⊢
  generalize hE2 : a1 ++ enc vi ++ enc vg ++ enc vn = a2
  have A2 : a2.length ≤ 42 := by rw [← hE2]; simp only [List.length_append]; omega
  have HE2 := Lib.hid hE2
  clear hE2 l0 l1 l2 A1
  generalize a1 ++ enc vi ++ enc vg = z3
  generalize a1 ++ enc vi = z2
  go_wp2_with fail
  go_loopw [5, 7] (fun sv i wr => ∃ k : Nat, k ≤ 9 ∧ i = .int .i64 k ∧ sv = .string (B (a2 ++ locsT l k)) ∧ Aside0 (Below w.heap.size w wr) ∧ Aside0 (Blk wr w.heap.size #[.int .i64 (s : Int), .int .i64 3, .int .i64 (vi : Int), .int .i64 (vg : Int), .int .i64 (vn : Int), (.slice A l.length c), .string q6, .int .i64 q7, .int .i64 q8, .int .i64 q9, .string q10, .string q11, .int .i64 (fr : Int), .int .i64 (ti : Int)] 28) ∧ Aside0 (Blk wr g6 #[.int .i64 (vi : Int), .int .i64 (vg : Int), .int .i64 (vn : Int), .slice A l.length c] 24)) (fun _ i _ => 9 - (intOf i).toNat)
  case atStart => exact ⟨0, Nat.zero_le _, rfl, by rw [locsT, List.append_nil], HB, HR, HV6⟩
  case round =>
    clear HB HR HV6
    obtain ⟨k, hk, rfl, rfl, HB, HR, HV6⟩ := hrel
    by_cases hlt : k < 9
    · have hkl : k < l.length := by have := HV.out.nine; omega
      obtain ⟨ad, hA, k0, k1⟩ := at_T67 HC.out k (by omega) (by omega)
      rw [Int.toNat_natCast] at k0 k1
      have hKB := Nat.lt_of_lt_of_le (lt_cell k0) HB.out.size
      have hKB1 := Nat.lt_of_lt_of_le (lt_cell k1) HB.out.size
      have e0 := (HB.out.cell (lt_cell k0)).trans k0
      have e1 := (HB.out.cell (lt_cell k1)).trans k1
      clear k0 k1
      subst hA
      have hv9 := HV.out.locs k hlt
      have hz0 := Int.toNat_of_nonneg hv9.1.1
      have hz1 := Int.toNat_of_nonneg hv9.2.1
      have hb0 : (rd_T67 l k).f0.toNat ≤ 11 := by omega
      have hb1 : (rd_T67 l k).f1.toNat ≤ 47 := by omega
      have HLT := Lib.hid (show locsT l (k + 1) = locsT l k ++ encK [(rd_T67 l k).f0.toNat, (rd_T67 l k).f1.toNat] 2 from rfl)
      have hll := locsT_len HV.out k (by omega)
      rw [← hz0] at e0
      rw [← hz1] at e1
      generalize (rd_T67 l k).f0.toNat = x0 at *
      generalize (rd_T67 l k).f1.toNat = x1 at *
      clear hv9 hz0 hz1
      have l0 := enc_len8 (m := x0) (by omega)
      have l1 := enc_len8 (m := x1) (by omega)
      obtain ⟨v0, v1, v2, v3⟩ := cells4 HV6.out
      have hlt6 := HV6.out.lt
      go_wp2_with fail
      refine region_below_tail 17 (by kernel_rfl) (by kernel_rfl) ?_
      simp only [List.take_succ_cons, List.take_zero, List.drop_succ_cons, List.drop_zero]
      repeat (first | (refine q_cat _ _ _ [83, 74] ?_ rfl rfl rfl ?_ ?_ ?_ ?_; rotate_left 1; (· rfl); (· rfl); (· (try simp only [List.length_append, List.length_cons, List.length_nil]); omega); simp only [Act.put, List.setIfInBounds_toArray, List.set_cons_zero, List.set_cons_succ]) | (refine q_cat _ _ _ ?_ ?_ rfl rfl rfl ?_ ?_ ?_ ?_; rotate_left 2; (· rfl); (· rfl); (· (try simp only [List.length_append, List.length_cons, List.length_nil]); omega); simp only [Act.put, List.setIfInBounds_toArray, List.set_cons_zero, List.set_cons_succ]) | go_big_quiet_step (fail) | (refine BigFrame.wpQuiet_want (by rfl) (fun K hK => ?_); go_big_quiet_op; refine ⟨_, fun _ _ => rfl, hK _ ?_⟩; clear hK K) | (refine q_ld 3 _ _ _ _ rfl rfl rfl rfl (ld_int _ _) (by assumption) (by assumption) ?_; simp only [Act.put, List.setIfInBounds_toArray, List.set_cons_zero, List.set_cons_succ]) | (refine q_ld 9 _ _ _ _ rfl rfl rfl rfl (ld_str _ _) (by assumption) (by assumption) ?_; simp only [Act.put, List.setIfInBounds_toArray, List.set_cons_zero, List.set_cons_succ]) | (refine q_ld 22 _ _ _ _ rfl rfl rfl rfl (ld_sl _ _) (by assumption) (by assumption) ?_; simp only [Act.put, List.setIfInBounds_toArray, List.set_cons_zero, List.set_cons_succ]) | (refine q_go (f := 29) Try.func29 (by kernel_rfl) rfl #[.int .i64 (x0 : Int)] _ _ rfl rfl rfl (by simp only [List.map_toArray, List.map_cons, List.map_nil]; rfl) (fun w' _ => rnum_L x0 (by omega) w') ?_; simp only [Act.put, List.setIfInBounds_toArray, List.set_cons_zero, List.set_cons_succ]) | (refine q_go (f := 29) Try.func29 (by kernel_rfl) rfl #[.int .i64 (x1 : Int)] _ _ rfl rfl rfl (by simp only [List.map_toArray, List.map_cons, List.map_nil]; rfl) (fun w' _ => rnum_L x1 (by omega) w') ?_; simp only [Act.put, List.setIfInBounds_toArray, List.set_cons_zero, List.set_cons_succ]))
      refine wpQuiet_nil ?_
      intro w4 hw'
      replace HB := Aside0.mk (below2 HB.out HB.out.size hw')
      replace HR := Aside0.mk (HR.out.keep hw')
      replace HV6 := Aside0.mk (HV6.out.keep hw')
      clear hw'
      clear v0 v1 v2 v3 hlt6 e0 e1 hKB hKB1
      go_wp2_with fail
      go_roundw
      case rel => exact ⟨k + 1, by omega, by go_num, by rw [HLT.out, encK2]; simp [List.append_assoc], HB, HR, HV6⟩
      case measure => simp [intOf]; omega
    · obtain rfl : k = 9 := by omega
      obtain ⟨w3, rfl⟩ : ∃ x, x = wr := ⟨wr, rfl⟩
      have hll := locsT_len HV.out 9 (by decide)
      generalize hE3 : a2 ++ locsT l 9 = a3
      have A3 : a3.length ≤ 186 := by rw [← hE3, List.length_append]; omega
      have HE3 := Lib.hid hE3
      clear hE3 hll A2 hlt hk HV6
      have l0 := enc_len8 (m := fr) (by have := HFR.out; omega)
      have l1 := enc_len8 (m := ti) (by have := HTI.out; omega)
      obtain ⟨d0, d1, d2, d3, d4, d5, d6, d7, d8, d9, d10, d11, d12, d13⟩ := cells14 HR.out
      have hlt0 := HR.out.lt
      go_wp2_with fail
      refine region_below_tail 9 (by kernel_rfl) (by kernel_rfl) ?_
      simp only [List.take_succ_cons, List.take_zero, List.drop_succ_cons, List.drop_zero]
      repeat (first | (refine q_cat _ _ _ [83, 74] ?_ rfl rfl rfl ?_ ?_ ?_ ?_; rotate_left 1; (· rfl); (· rfl); (· (try simp only [List.length_append, List.length_cons, List.length_nil]); omega); simp only [Act.put, List.setIfInBounds_toArray, List.set_cons_zero, List.set_cons_succ]) | (refine q_cat _ _ _ ?_ ?_ rfl rfl rfl ?_ ?_ ?_ ?_; rotate_left 2; (· rfl); (· rfl); (· (try simp only [List.length_append, List.length_cons, List.length_nil]); omega); simp only [Act.put, List.setIfInBounds_toArray, List.set_cons_zero, List.set_cons_succ]) | go_big_quiet_step (fail) | (refine BigFrame.wpQuiet_want (by rfl) (fun K hK => ?_); go_big_quiet_op; refine ⟨_, fun _ _ => rfl, hK _ ?_⟩; clear hK K) | (refine q_ld 3 _ _ _ _ rfl rfl rfl rfl (ld_int _ _) (by assumption) (by assumption) ?_; simp only [Act.put, List.setIfInBounds_toArray, List.set_cons_zero, List.set_cons_succ]) | (refine q_ld 9 _ _ _ _ rfl rfl rfl rfl (ld_str _ _) (by assumption) (by assumption) ?_; simp only [Act.put, List.setIfInBounds_toArray, List.set_cons_zero, List.set_cons_succ]) | (refine q_ld 22 _ _ _ _ rfl rfl rfl rfl (ld_sl _ _) (by assumption) (by assumption) ?_; simp only [Act.put, List.setIfInBounds_toArray, List.set_cons_zero, List.set_cons_succ]) | (refine q_go (f := 29) Try.func29 (by kernel_rfl) rfl #[.int .i64 (fr : Int)] _ _ rfl rfl rfl (by simp only [List.map_toArray, List.map_cons, List.map_nil]; rfl) (fun w' _ => rnum_L fr (by have := HFR.out; omega) w') ?_; simp only [Act.put, List.setIfInBounds_toArray, List.set_cons_zero, List.set_cons_succ]) | (refine q_go (f := 29) Try.func29 (by kernel_rfl) rfl #[.int .i64 (ti : Int)] _ _ rfl rfl rfl (by simp only [List.map_toArray, List.map_cons, List.map_nil]; rfl) (fun w' _ => rnum_L ti (by have := HTI.out; omega) w') ?_; simp only [Act.put, List.setIfInBounds_toArray, List.set_cons_zero, List.set_cons_succ]))
      refine wpQuiet_nil ?_
      intro w5 hw'
      replace HB := Aside0.mk (below2 HB.out HB.out.size hw')
      replace HR := Aside0.mk (HR.out.keep hw')
      clear hw'
      clear d0 d1 d2 d3 d4 d5 d6 d7 d8 d9 d10 d11 d12 d13 hlt0
      generalize hE4 : a3 ++ enc fr ++ enc ti = a4
      have A4 : a4.length ≤ 202 := by rw [← hE4]; simp only [List.length_append]; omega
      have HE4 := Lib.hid hE4
      clear hE4 l0 l1 A3
      obtain ⟨d0, d1, d2, d3, d4, d5, d6, d7, d8, d9, d10, d11, d12, d13⟩ := cells14 HR.out
      have hlt0 := HR.out.lt
      go_wp2_with fail
      clear d0 d1 d2 d3 d4 d5 d6 d7 d8 d9 d10 d11 d12 d13 hlt0
      refine Calls.mono (rseal_L a4 w5 (by omega)) ?_
      rintro e wz ⟨rfl, b1⟩
      replace HB := Aside0.mk (below2 HB.out HB.out.size b1)
      clear b1
      go_wp2_with fail
      go_ret2
      refine ⟨?_, HB.out⟩
      have hnine := HV.out.nine
      rw [← HRES.out, ← HE4.out, ← HE3.out, ← HE2.out, ← HE1.out]
      simp [recT, headT, volT, encK2, encK3, hnine, B_data]
set_option maxRecDepth 100000 in
set_option maxHeartbeats 4000000 in
theorem rrw_bad (q0 q1 q2 q3 q4 : Int) (A : Option Addr) (c : Nat) (l : List S67) (q6 : ByteArray) (q7 q8 q9 : Int) (q10 q11 : ByteArray) (q12 q13 : Int) (w : World) (hr : Kd.C k67 w A l.length l) (hl : l.length ≤ 1000) (hc : l.length ≤ c) (h6 : q6.size ≤ 140737488355328) (h11 : q11.size ≤ 140737488355328) (z : Int) (hz : chkR (⟨q0, q1, q2, q3, q4, l, q6, q7, q8, q9, q10, q11, q12, q13⟩ : RecP) = z) (hz0 : z ≠ 0) : Calls Try.prog 13 #[.agg #[.int .i64 q0, .int .i64 q1, .int .i64 q2, .int .i64 q3, .int .i64 q4, (.slice A l.length c), .string q6, .int .i64 q7, .int .i64 q8, .int .i64 q9, .string q10, .string q11, .int .i64 q12, .int .i64 q13]] w fun e w' => e = .returned (.tuple #[.string (B []), .int .i64 z]) ∧ Below w.heap.size w w' := by
  have hu0 := Try.underlying28
  have hu1 := Try.underlying28
  have hu2 := Try.underlying24
  have hu3 := Try.underlying26
  have hu4 := Try.underlying67
  have HZ := Lib.hid hz
  have HC := Lib.hid hr
  have HL := Lib.hid hl
  have HCC := Lib.hid hc
  have z1 : (z == 0) = false := by simpa using hz0
  have z2 : (z != 0) = true := by simp [bne, z1]
  clear hz hr hl hc hz0
  have HB : Aside0 (Below w.heap.size w (w.alloc (.cells #[.int .i64 q0, .int .i64 q1, .int .i64 q2, .int .i64 q3, .int .i64 q4, (.slice A l.length c), .string q6, .int .i64 q7, .int .i64 q8, .int .i64 q9, .string q10, .string q11, .int .i64 q12, .int .i64 q13] 28))) := ⟨below_alloc (Below.refl _ _) _⟩
  have HR : Aside0 (Blk (w.alloc (.cells #[.int .i64 q0, .int .i64 q1, .int .i64 q2, .int .i64 q3, .int .i64 q4, (.slice A l.length c), .string q6, .int .i64 q7, .int .i64 q8, .int .i64 q9, .string q10, .string q11, .int .i64 q12, .int .i64 q13] 28)) w.heap.size #[.int .i64 q0, .int .i64 q1, .int .i64 q2, .int .i64 q3, .int .i64 q4, (.slice A l.length c), .string q6, .int .i64 q7, .int .i64 q8, .int .i64 q9, .string q10, .string q11, .int .i64 q12, .int .i64 q13] 28) := ⟨Blk.new w _ _⟩
  obtain ⟨d0, d1, d2, d3, d4, d5, d6, d7, d8, d9, d10, d11, d12, d13⟩ := cells14 HR.out
  go_enter Try.func13, Try.ntmps13
  go_wp2_with fail
  clear d0 d1 d2 d3 d4 d5 d6 d7 d8 d9 d10 d11 d12 d13
  have hq0 := refchk_calls (⟨q0, q1, q2, q3, q4, l, q6, q7, q8, q9, q10, q11, q12, q13⟩ : RecP) A c (w.alloc (.cells #[.int .i64 q0, .int .i64 q1, .int .i64 q2, .int .i64 q3, .int .i64 q4, (.slice A l.length c), .string q6, .int .i64 q7, .int .i64 q8, .int .i64 q9, .string q10, .string q11, .int .i64 q12, .int .i64 q13] 28)) (Kd.C_below HC.out HB.out) HL.out HCC.out h6 h11
  rw [HZ.out] at hq0
  refine Calls.mono hq0 ?_
  clear hq0
  rintro e wa ⟨rfl, b1⟩
  replace HB := Aside0.mk (below2 HB.out HB.out.size b1)
  clear b1
  go_wp2_with fail
  go_ret2
  exact ⟨rfl, HB.out⟩
theorem refwrite_calls (r : RecP) (A : Option Addr) (c : Nat) (w : World) (hr : Kd.C k67 w A r.locs.length r.locs) (hl : r.locs.length ≤ 1000) (hc : r.locs.length ≤ c) (h6 : r.ekey.size ≤ 140737488355328) (h11 : r.key.size ≤ 140737488355328) : Calls Try.prog 13 #[.agg #[.int .i64 r.seq, .int .i64 r.kind, .int .i64 r.id, .int .i64 r.gen, .int .i64 r.len, (.slice A r.locs.length c), .string r.ekey, .int .i64 r.evol, .int .i64 r.eoff, .int .i64 r.elen, .string r.dig, .string r.key, .int .i64 r.frm, .int .i64 r.til]] w fun e w' => e = .returned (.tuple #[.string (recW r).1, .int .i64 (recW r).2]) ∧ Below w.heap.size w w' := by
  by_cases hz : chkR r = 0
  · have hw : recW r = (B (sealL (recT r)), 0) := if_pos hz
    rw [hw]
    obtain ⟨q0, q1, q2, q3, q4, l, q6, q7, q8, q9, q10, q11, q12, q13⟩ := r
    rcases kind_chk _ hz with h | h | h | h
    · change q1 = 0 at h
      subst h
      obtain ⟨h0, hv, hk, _, h8, h9, h10, _⟩ := chk0_0 q0 q2 q3 q4 l q6 q7 q8 q9 q10 q11 q12 q13 hz
      have hn := hv.n
      obtain ⟨s, rfl⟩ := Int.eq_ofNat_of_zero_le h0.1
      obtain ⟨vi, rfl⟩ := Int.eq_ofNat_of_zero_le hv.i.1
      obtain ⟨vg, rfl⟩ := Int.eq_ofNat_of_zero_le hv.g.1
      obtain ⟨vn, rfl⟩ := Int.eq_ofNat_of_zero_le hv.n.1
      obtain ⟨eo, rfl⟩ := Int.eq_ofNat_of_zero_le h8.1
      obtain ⟨el, rfl⟩ := Int.eq_ofNat_of_zero_le h9.1
      exact rrw_0 s vi vg vn A c l q6 q7 eo el q10 q11 q12 q13 w hr hl hc h6 h11 hz (by omega) hv (key_ok hk).1 (by omega) (by omega) h10
    · change q1 = 1 at h
      subst h
      obtain ⟨h0, hk, _⟩ := chk0_1 q0 q2 q3 q4 l q6 q7 q8 q9 q10 q11 q12 q13 hz
      obtain ⟨s, rfl⟩ := Int.eq_ofNat_of_zero_le h0.1
      exact rrw_1 s q2 q3 q4 A c l q6 q7 q8 q9 q10 q11 q12 q13 w hr hl hc h6 h11 hz (by omega) (key_ok hk).1
    · change q1 = 2 at h
      subst h
      obtain ⟨h0, hv, _⟩ := chk0_2 q0 q2 q3 q4 l q6 q7 q8 q9 q10 q11 q12 q13 hz
      obtain ⟨s, rfl⟩ := Int.eq_ofNat_of_zero_le h0.1
      obtain ⟨vi, rfl⟩ := Int.eq_ofNat_of_zero_le hv.i.1
      obtain ⟨vg, rfl⟩ := Int.eq_ofNat_of_zero_le hv.g.1
      obtain ⟨vn, rfl⟩ := Int.eq_ofNat_of_zero_le hv.n.1
      exact rrw_2 s vi vg vn A c l q6 q7 q8 q9 q10 q11 q12 q13 w hr hl hc h6 h11 hz (by omega) hv
    · change q1 = 3 at h
      subst h
      obtain ⟨h0, hv, hf, ht, _, _⟩ := chk0_3 q0 q2 q3 q4 l q6 q7 q8 q9 q10 q11 q12 q13 hz
      obtain ⟨s, rfl⟩ := Int.eq_ofNat_of_zero_le h0.1
      obtain ⟨vi, rfl⟩ := Int.eq_ofNat_of_zero_le hv.i.1
      obtain ⟨vg, rfl⟩ := Int.eq_ofNat_of_zero_le hv.g.1
      obtain ⟨vn, rfl⟩ := Int.eq_ofNat_of_zero_le hv.n.1
      obtain ⟨fr, rfl⟩ := Int.eq_ofNat_of_zero_le hf.1
      obtain ⟨ti, rfl⟩ := Int.eq_ofNat_of_zero_le ht.1
      exact rrw_3 s vi vg vn A c l q6 q7 q8 q9 q10 q11 fr ti w hr hl hc h6 h11 hz (by omega) hv (by omega) (by omega)
  · have hw : recW r = (B [], chkR r) := if_neg hz
    rw [hw]
    obtain ⟨q0, q1, q2, q3, q4, l, q6, q7, q8, q9, q10, q11, q12, q13⟩ := r
    exact rrw_bad q0 q1 q2 q3 q4 A c l q6 q7 q8 q9 q10 q11 q12 q13 w hr hl hc h6 h11 _ rfl hz
/-- The reference's Write, in the form in which its callers take it. -/
def sluicegateref11_Write.f (a0_0 : Int) (a0_1 : Int) (a0_2 : Int) (a0_3 : Int) (a0_4 : Int) (l0_5 : List S67) (a0_6 : ByteArray) (a0_7 : Int) (a0_8 : Int) (a0_9 : Int) (a0_10 : ByteArray) (a0_11 : ByteArray) (a0_12 : Int) (a0_13 : Int) : Option (ByteArray × Int) := if l0_5.length ≤ 1000 ∧ a0_6.size ≤ 140737488355328 ∧ a0_11.size ≤ 140737488355328 then some (recW ⟨a0_0, a0_1, a0_2, a0_3, a0_4, l0_5, a0_6, a0_7, a0_8, a0_9, a0_10, a0_11, a0_12, a0_13⟩) else none
theorem sluicegateref11_Write.calls (a0_0 : Int) (a0_1 : Int) (a0_2 : Int) (a0_3 : Int) (a0_4 : Int) (A0_5 : Option Addr) (c0_5 : Nat) (l0_5 : List S67) (a0_6 : ByteArray) (a0_7 : Int) (a0_8 : Int) (a0_9 : Int) (a0_10 : ByteArray) (a0_11 : ByteArray) (a0_12 : Int) (a0_13 : Int) (r1 : ByteArray) (r2 : Int) (w : World) (hr0_5 : Kd.C k67 w A0_5 l0_5.length l0_5) (hc0_5 : l0_5.length ≤ c0_5) (h : sluicegateref11_Write.f a0_0 a0_1 a0_2 a0_3 a0_4 l0_5 a0_6 a0_7 a0_8 a0_9 a0_10 a0_11 a0_12 a0_13 = some (r1, r2)) :
    Calls Try.prog 13 #[.agg #[.int .i64 a0_0, .int .i64 a0_1, .int .i64 a0_2, .int .i64 a0_3, .int .i64 a0_4, (.slice A0_5 l0_5.length c0_5), .string a0_6, .int .i64 a0_7, .int .i64 a0_8, .int .i64 a0_9, .string a0_10, .string a0_11, .int .i64 a0_12, .int .i64 a0_13]] w fun e w' => e = .returned (.tuple #[.string r1, .int .i64 r2]) ∧ Below w.heap.size w w' := by
  unfold sluicegateref11_Write.f at h
  split at h
  · rename_i hb
    have := refwrite_calls ⟨a0_0, a0_1, a0_2, a0_3, a0_4, l0_5, a0_6, a0_7, a0_8, a0_9, a0_10, a0_11, a0_12, a0_13⟩ A0_5 c0_5 w hr0_5 hb.1 hc0_5 hb.2.1 hb.2.2
    rw [Option.some.inj h] at this
    exact this
  · cases h
end Go.Proofs.Ytkceobahefjlnaa
end
section
/- live of law11: its walk. -/
namespace Go.Proofs.Ytkceobahefjlnaa
open Go.RowKit Q Go.Proofs.YtkceobahefjlnaaW.PrintWords Go.Proofs.YtkceobahefjlnaaW.PrintLast Go.Proofs.YtkceobahefjlnaaW.PrintMore
theorem l11_c1 : chkR (⟨0, 1, 0, 0, 0, [], ⟨#[]⟩, 0, 0, 0, ⟨#[]⟩, (⟨#[97]⟩ : ByteArray), 0, 0⟩ : RecP) = 0 := by kernel_rfl
theorem l11_c2 : chkR (⟨0, 1, 0, 0, 0, [], ⟨#[]⟩, 0, 0, 0, ⟨#[]⟩, ⟨#[]⟩, 0, 0⟩ : RecP) = 11 := by kernel_rfl
theorem l11_c3 : chkR (⟨0, 0, 0, 0, 0, [], ⟨#[]⟩, 0, 0, 0, ⟨#[]⟩, ⟨#[]⟩, 0, 0⟩ : RecP) = 1 := by kernel_rfl
theorem l11_c4 : chkR (⟨0, 4, 0, 0, 0, [], ⟨#[]⟩, 0, 0, 0, ⟨#[]⟩, ⟨#[]⟩, 0, 0⟩ : RecP) = 1 := by kernel_rfl
theorem l11_t1 : recT (⟨0, 1, 0, 0, 0, [], ⟨#[]⟩, 0, 0, 0, ⟨#[]⟩, (⟨#[97]⟩ : ByteArray), 0, 0⟩ : RecP) = [83, 74, 0, 1, 1, 97] := by
  simp [recT, headT, encK, txt, enc_lt]
theorem l11_s : ∃ S : List UInt8, sealL (recT (⟨0, 1, 0, 0, 0, [], ⟨#[]⟩, 0, 0, 0, ⟨#[]⟩, (⟨#[97]⟩ : ByteArray), 0, 0⟩ : RecP)) = S ∧ S.length = 10 := ⟨_, rfl, by rw [sealL_len, l11_t1]; rfl⟩
theorem l11_e1 : recR [97, 98, 99] = (zeroR, 3) := by
  unfold recR openL
  rw [if_pos (show ([97, 98, 99] : List UInt8).length < 4 by decide)]
  rfl
theorem l11_e2 : recR (sealL [83, 74]) = (zeroR, 4) := by
  have hu : openL (sealL [83, 74]) = (B [83, 74], 0) := openL_seal _
  have hc : cutJ (openL (sealL [83, 74])).1.data.toList = ([], true) := by rw [hu]; rfl
  unfold recR
  rw [if_pos (show (openL (sealL [83, 74])).2 = 0 by rw [hu]), if_neg]
  rw [hc]
  intro h
  exact absurd h.2.1 (by decide +kernel)
theorem l11_v : volP 0 0 0 [] = false := by kernel_rfl
theorem l11_w1 (S : List UInt8) (hS : sealL (recT (⟨0, 1, 0, 0, 0, [], ⟨#[]⟩, 0, 0, 0, ⟨#[]⟩, (⟨#[97]⟩ : ByteArray), 0, 0⟩ : RecP)) = S) (w : World) : Calls Try.prog 11 #[.agg #[.int .i64 0, .int .i64 1, .int .i64 0, .int .i64 0, .int .i64 0, (.slice none 0 0), .string ⟨#[]⟩, .int .i64 0, .int .i64 0, .int .i64 0, .string ⟨#[]⟩, .string (⟨#[97]⟩ : ByteArray), .int .i64 0, .int .i64 0]] w fun e w' => e = .returned (.tuple #[.string (B S), .int .i64 0]) ∧ Below w.heap.size w w' := by
  have h := recwrite_calls (⟨0, 1, 0, 0, 0, [], ⟨#[]⟩, 0, 0, 0, ⟨#[]⟩, (⟨#[97]⟩ : ByteArray), 0, 0⟩ : RecP) none 0 w (Kd.C_nil _ _) (by decide) (by decide)
  rw [show recW (⟨0, 1, 0, 0, 0, [], ⟨#[]⟩, 0, 0, 0, ⟨#[]⟩, (⟨#[97]⟩ : ByteArray), 0, 0⟩ : RecP) = (B (sealL (recT (⟨0, 1, 0, 0, 0, [], ⟨#[]⟩, 0, 0, 0, ⟨#[]⟩, (⟨#[97]⟩ : ByteArray), 0, 0⟩ : RecP))), 0) from if_pos l11_c1, hS] at h
  exact h
theorem l11_w2 (w : World) : Calls Try.prog 11 #[.agg #[.int .i64 0, .int .i64 1, .int .i64 0, .int .i64 0, .int .i64 0, (.slice none 0 0), .string ⟨#[]⟩, .int .i64 0, .int .i64 0, .int .i64 0, .string ⟨#[]⟩, .string ⟨#[]⟩, .int .i64 0, .int .i64 0]] w fun e w' => e = .returned (.tuple #[.string (B []), .int .i64 11]) ∧ Below w.heap.size w w' := by
  have h := recwrite_calls (⟨0, 1, 0, 0, 0, [], ⟨#[]⟩, 0, 0, 0, ⟨#[]⟩, ⟨#[]⟩, 0, 0⟩ : RecP) none 0 w (Kd.C_nil _ _) (by decide) (by decide)
  rw [show recW (⟨0, 1, 0, 0, 0, [], ⟨#[]⟩, 0, 0, 0, ⟨#[]⟩, ⟨#[]⟩, 0, 0⟩ : RecP) = (B [], chkR (⟨0, 1, 0, 0, 0, [], ⟨#[]⟩, 0, 0, 0, ⟨#[]⟩, ⟨#[]⟩, 0, 0⟩ : RecP)) from if_neg (by rw [l11_c2]; decide), l11_c2] at h
  exact h
theorem l11_w3 (w : World) : Calls Try.prog 11 #[.agg #[.int .i64 0, .int .i64 0, .int .i64 0, .int .i64 0, .int .i64 0, (.slice none 0 0), .string ⟨#[]⟩, .int .i64 0, .int .i64 0, .int .i64 0, .string ⟨#[]⟩, .string ⟨#[]⟩, .int .i64 0, .int .i64 0]] w fun e w' => e = .returned (.tuple #[.string (B []), .int .i64 1]) ∧ Below w.heap.size w w' := by
  have h := recwrite_calls (⟨0, 0, 0, 0, 0, [], ⟨#[]⟩, 0, 0, 0, ⟨#[]⟩, ⟨#[]⟩, 0, 0⟩ : RecP) none 0 w (Kd.C_nil _ _) (by decide) (by decide)
  rw [show recW (⟨0, 0, 0, 0, 0, [], ⟨#[]⟩, 0, 0, 0, ⟨#[]⟩, ⟨#[]⟩, 0, 0⟩ : RecP) = (B [], chkR (⟨0, 0, 0, 0, 0, [], ⟨#[]⟩, 0, 0, 0, ⟨#[]⟩, ⟨#[]⟩, 0, 0⟩ : RecP)) from if_neg (by rw [l11_c3]; decide), l11_c3] at h
  exact h
theorem l11_r1 (S : List UInt8) (hS : sealL (recT (⟨0, 1, 0, 0, 0, [], ⟨#[]⟩, 0, 0, 0, ⟨#[]⟩, (⟨#[97]⟩ : ByteArray), 0, 0⟩ : RecP)) = S) (hl : S.length = 10) (w : World) : Calls Try.prog 19 #[.string (B S)] w fun e w' => ∃ (A : Option Addr) (c : Nat), e = .returned (.tuple #[.agg #[.int .i64 0, .int .i64 1, .int .i64 0, .int .i64 0, .int .i64 0, (.slice A 0 c), .string ⟨#[]⟩, .int .i64 0, .int .i64 0, .int .i64 0, .string ⟨#[]⟩, .string (⟨#[97]⟩ : ByteArray), .int .i64 0, .int .i64 0], .int .i64 0]) ∧ Kd.C k67 w' A 0 [] ∧ Below w.heap.size w w' := by
  have h := recread_calls S (by omega) w
  rw [← hS, recR_back _ l11_c1, hS] at h
  refine Calls.mono h ?_
  rintro e w' ⟨A, c, rfl, hC, _, hB⟩
  exact ⟨A, c, rfl, hC, hB⟩
theorem l11_r0 (m : List UInt8) (hm : m.length ≤ 1000) (z : Int) (h0 : recR m = (zeroR, z)) (w : World) : Calls Try.prog 19 #[.string (B m)] w fun e w' => ∃ (A : Option Addr) (c : Nat), e = .returned (.tuple #[.agg #[.int .i64 0, .int .i64 0, .int .i64 0, .int .i64 0, .int .i64 0, (.slice A 0 c), .string ⟨#[]⟩, .int .i64 0, .int .i64 0, .int .i64 0, .string ⟨#[]⟩, .string ⟨#[]⟩, .int .i64 0, .int .i64 0], .int .i64 z]) ∧ Below w.heap.size w w' := by
  have h := recread_calls m (by omega) w
  rw [h0] at h
  refine Calls.mono h ?_
  rintro e w' ⟨A, c, rfl, _, _, hB⟩
  exact ⟨A, c, rfl, hB⟩
theorem l11_same (A : Option Addr) (c : Nat) (w : World) (hC : Kd.C k67 w A 0 []) : Calls Try.prog 23 #[.agg #[.int .i64 0, .int .i64 1, .int .i64 0, .int .i64 0, .int .i64 0, (.slice A 0 c), .string ⟨#[]⟩, .int .i64 0, .int .i64 0, .int .i64 0, .string ⟨#[]⟩, .string (⟨#[97]⟩ : ByteArray), .int .i64 0, .int .i64 0], .agg #[.int .i64 0, .int .i64 1, .int .i64 0, .int .i64 0, .int .i64 0, (.slice none 0 0), .string ⟨#[]⟩, .int .i64 0, .int .i64 0, .int .i64 0, .string ⟨#[]⟩, .string (⟨#[97]⟩ : ByteArray), .int .i64 0, .int .i64 0]] w fun e w' => e = .returned (.bool true) ∧ Below w.heap.size w w' := by
  have h := sames_calls (⟨0, 1, 0, 0, 0, [], ⟨#[]⟩, 0, 0, 0, ⟨#[]⟩, (⟨#[97]⟩ : ByteArray), 0, 0⟩ : RecP) (⟨0, 1, 0, 0, 0, [], ⟨#[]⟩, 0, 0, 0, ⟨#[]⟩, (⟨#[97]⟩ : ByteArray), 0, 0⟩ : RecP) A none c 0 w hC (Kd.C_nil _ _) (Nat.zero_le _) (by decide) (by decide)
  rw [decide_eq_true rfl] at h
  exact h
theorem l11_chk (w : World) : Calls Try.prog 14 #[.agg #[.int .i64 0, .int .i64 4, .int .i64 0, .int .i64 0, .int .i64 0, (.slice none 0 0), .string ⟨#[]⟩, .int .i64 0, .int .i64 0, .int .i64 0, .string ⟨#[]⟩, .string ⟨#[]⟩, .int .i64 0, .int .i64 0]] w fun e w' => e = .returned (.int .i64 1) ∧ Below w.heap.size w w' := by
  have h := rchk_calls (⟨0, 4, 0, 0, 0, [], ⟨#[]⟩, 0, 0, 0, ⟨#[]⟩, ⟨#[]⟩, 0, 0⟩ : RecP) none 0 w (Kd.C_nil _ _) (by decide) (by decide)
  rw [l11_c4] at h
  exact h
theorem l11_vol (w : World) : Calls Try.prog 16 #[.agg #[.int .i64 0, .int .i64 0, .int .i64 0, .slice none 0 0]] w fun e w' => e = .returned (.bool false) ∧ Below w.heap.size w w' := by
  have h := vol_calls 0 0 0 none 0 0 [] w (Kd.C_nil _ _) rfl (by decide)
  rw [l11_v] at h
  exact h
set_option maxRecDepth 100000 in
set_option maxHeartbeats 4000000 in
theorem live11_calls (w : World) : Calls Try.prog 10 #[] w fun e w' => e = .returned (.bool true) ∧ Below w.heap.size w w' := by
  have hu0 := Try.underlying28
  have hu1 := Try.underlying34
  have hu2 := Try.underlying24
  have hu3 := Try.underlying26
  have hu4 := Try.underlying67
  obtain ⟨S, hS, hl⟩ := l11_s
  have HS := Lib.hid hS
  have hsz : (B S).size = 10 := by rw [B_size]; exact hl
  have HLn := Lib.hid hl
  clear hS hl
  have HB : Aside0 (Below w.heap.size w w) := ⟨Below.refl _ _⟩
  go_enter Try.func10, Try.ntmps10
  go_wp2_with fail
  refine (l11_w1 S HS.out _).mono ?_
  rintro e w1 ⟨rfl, b1⟩
  replace HB := Aside0.mk (below2 HB.out HB.out.size b1)
  clear b1
  go_wp2_with fail
  refine (l11_r1 S HS.out HLn.out _).mono ?_
  rintro e w2 ⟨A1, c1, rfl, hC, b1⟩
  replace HB := Aside0.mk (below2 HB.out HB.out.size b1)
  have HC := Aside0.mk hC
  clear hC
  clear b1
  have HX := Aside0.mk (Blk.new w2 #[.int .i64 0, .int .i64 1, .int .i64 0, .int .i64 0, .int .i64 0, (.slice A1 0 c1), .string ⟨#[]⟩, .int .i64 0, .int .i64 0, .int .i64 0, .string ⟨#[]⟩, .string (⟨#[97]⟩ : ByteArray), .int .i64 0, .int .i64 0] 34)
  replace HB := Aside0.mk (below_alloc HB.out (.cells #[.int .i64 0, .int .i64 1, .int .i64 0, .int .i64 0, .int .i64 0, (.slice A1 0 c1), .string ⟨#[]⟩, .int .i64 0, .int .i64 0, .int .i64 0, .string ⟨#[]⟩, .string (⟨#[97]⟩ : ByteArray), .int .i64 0, .int .i64 0] 34))
  replace HC := Aside0.mk (Kd.C_alloc HC.out (.cells #[.int .i64 0, .int .i64 1, .int .i64 0, .int .i64 0, .int .i64 0, (.slice A1 0 c1), .string ⟨#[]⟩, .int .i64 0, .int .i64 0, .int .i64 0, .string ⟨#[]⟩, .string (⟨#[97]⟩ : ByteArray), .int .i64 0, .int .i64 0] 34))
  go_wp2_with fail
  refine (l11_w2 _).mono ?_
  rintro e w3 ⟨rfl, b1⟩
  replace HB := Aside0.mk (below2 HB.out HB.out.size b1)
  replace HX := Aside0.mk (HX.out.keep b1)
  replace HC := Aside0.mk (Kd.C_below HC.out b1)
  clear b1
  go_wp2_with fail
  refine (l11_w3 _).mono ?_
  rintro e w4 ⟨rfl, b1⟩
  replace HB := Aside0.mk (below2 HB.out HB.out.size b1)
  replace HX := Aside0.mk (HX.out.keep b1)
  replace HC := Aside0.mk (Kd.C_below HC.out b1)
  clear b1
  go_wp2_with fail
  refine (l11_r0 [97, 98, 99] (by decide) 3 l11_e1 _).mono ?_
  rintro e w5 ⟨A2, c2, rfl, b1⟩
  replace HB := Aside0.mk (below2 HB.out HB.out.size b1)
  replace HX := Aside0.mk (HX.out.keep b1)
  replace HC := Aside0.mk (Kd.C_below HC.out b1)
  clear b1
  replace HB := Aside0.mk (below_alloc HB.out (.cells #[.int .i64 0, .int .i64 0, .int .i64 0, .int .i64 0, .int .i64 0, (.slice A2 0 c2), .string ⟨#[]⟩, .int .i64 0, .int .i64 0, .int .i64 0, .string ⟨#[]⟩, .string ⟨#[]⟩, .int .i64 0, .int .i64 0] 34))
  replace HX := Aside0.mk (HX.out.alloc (.cells #[.int .i64 0, .int .i64 0, .int .i64 0, .int .i64 0, .int .i64 0, (.slice A2 0 c2), .string ⟨#[]⟩, .int .i64 0, .int .i64 0, .int .i64 0, .string ⟨#[]⟩, .string ⟨#[]⟩, .int .i64 0, .int .i64 0] 34))
  replace HC := Aside0.mk (Kd.C_alloc HC.out (.cells #[.int .i64 0, .int .i64 0, .int .i64 0, .int .i64 0, .int .i64 0, (.slice A2 0 c2), .string ⟨#[]⟩, .int .i64 0, .int .i64 0, .int .i64 0, .string ⟨#[]⟩, .string ⟨#[]⟩, .int .i64 0, .int .i64 0] 34))
  go_wp2_with fail
  refine (rseal_L [83, 74] _ (by decide)).mono ?_
  rintro e w6 ⟨rfl, b1⟩
  replace HB := Aside0.mk (below2 HB.out HB.out.size b1)
  replace HX := Aside0.mk (HX.out.keep b1)
  replace HC := Aside0.mk (Kd.C_below HC.out b1)
  clear b1
  go_wp2_with fail
  refine (l11_r0 (sealL [83, 74]) (by rw [sealL_len]; decide) 4 l11_e2 _).mono ?_
  rintro e w7 ⟨A3, c3, rfl, b1⟩
  replace HB := Aside0.mk (below2 HB.out HB.out.size b1)
  replace HX := Aside0.mk (HX.out.keep b1)
  replace HC := Aside0.mk (Kd.C_below HC.out b1)
  clear b1
  replace HB := Aside0.mk (below_alloc HB.out (.cells #[.int .i64 0, .int .i64 0, .int .i64 0, .int .i64 0, .int .i64 0, (.slice A3 0 c3), .string ⟨#[]⟩, .int .i64 0, .int .i64 0, .int .i64 0, .string ⟨#[]⟩, .string ⟨#[]⟩, .int .i64 0, .int .i64 0] 34))
  replace HX := Aside0.mk (HX.out.alloc (.cells #[.int .i64 0, .int .i64 0, .int .i64 0, .int .i64 0, .int .i64 0, (.slice A3 0 c3), .string ⟨#[]⟩, .int .i64 0, .int .i64 0, .int .i64 0, .string ⟨#[]⟩, .string ⟨#[]⟩, .int .i64 0, .int .i64 0] 34))
  replace HC := Aside0.mk (Kd.C_alloc HC.out (.cells #[.int .i64 0, .int .i64 0, .int .i64 0, .int .i64 0, .int .i64 0, (.slice A3 0 c3), .string ⟨#[]⟩, .int .i64 0, .int .i64 0, .int .i64 0, .string ⟨#[]⟩, .string ⟨#[]⟩, .int .i64 0, .int .i64 0] 34))
  generalize w2.heap.size = gx at HX ⊢
  have d0 := HX.out.cell (i := 0) (v := .int .i64 0) rfl
  have d1 := HX.out.cell (i := 1) (v := .int .i64 1) rfl
  have d2 := HX.out.cell (i := 2) (v := .int .i64 0) rfl
  have d3 := HX.out.cell (i := 3) (v := .int .i64 0) rfl
  have d4 := HX.out.cell (i := 4) (v := .int .i64 0) rfl
  have d5 := HX.out.cell (i := 5) (v := .slice A1 0 c1) rfl
  have d6 := HX.out.cell (i := 6) (v := .string ⟨#[]⟩) rfl
  have d7 := HX.out.cell (i := 7) (v := .int .i64 0) rfl
  have d8 := HX.out.cell (i := 8) (v := .int .i64 0) rfl
  have d9 := HX.out.cell (i := 9) (v := .int .i64 0) rfl
  have d10 := HX.out.cell (i := 10) (v := .string ⟨#[]⟩) rfl
  have d11 := HX.out.cell (i := 11) (v := .string (⟨#[97]⟩ : ByteArray)) rfl
  have d12 := HX.out.cell (i := 12) (v := .int .i64 0) rfl
  have d13 := HX.out.cell (i := 13) (v := .int .i64 0) rfl
  go_wp2_with fail
  clear d0 d1 d2 d3 d4 d5 d6 d7 d8 d9 d10 d11 d12 d13
  refine (l11_same A1 c1 _ HC.out).mono ?_
  rintro e w8 ⟨rfl, b1⟩
  replace HB := Aside0.mk (below2 HB.out HB.out.size b1)
  clear b1
  go_wp2_with fail
  refine (l11_chk _).mono ?_
  rintro e w9 ⟨rfl, b1⟩
  replace HB := Aside0.mk (below2 HB.out HB.out.size b1)
  clear b1
  go_wp2_with fail
  refine (l11_vol _).mono ?_
  rintro e w10 ⟨rfl, b1⟩
  replace HB := Aside0.mk (below2 HB.out HB.out.size b1)
  clear b1
  go_wp2_with fail
  go_ret
  exact ⟨rfl, HB.out⟩
end Go.Proofs.Ytkceobahefjlnaa
end
section
/- Records as rows of cells that a walk does not look into; the contracts of what takes and gives them. -/
namespace Go.Proofs.Ytkceobahefjlnaa
open Go.RowKit Q Go.Proofs.YtkceobahefjlnaaW.PrintWords Go.Proofs.YtkceobahefjlnaaW.PrintLast Go.Proofs.YtkceobahefjlnaaW.PrintMore
/-- A record's cells; its places lie in the slice at A. -/
def rv (r : RecP) (A : Option Addr) (c : Nat) : Array Value := #[.int .i64 r.seq, .int .i64 r.kind, .int .i64 r.id, .int .i64 r.gen, .int .i64 r.len, (.slice A r.locs.length c), .string r.ekey, .int .i64 r.evol, .int .i64 r.eoff, .int .i64 r.elen, .string r.dig, .string r.key, .int .i64 r.frm, .int .i64 r.til]
/-- The slice holds its places. -/
def RV (w : World) (r : RecP) (A : Option Addr) (c : Nat) : Prop := Kd.C k67 w A r.locs.length r.locs ∧ r.locs.length ≤ c
theorem RV.below {w w' : World} {r : RecP} {A : Option Addr} {c : Nat} (h : RV w r A c) (b : Below w.heap.size w w') : RV w' r A c := ⟨Kd.C_below h.1 b, h.2⟩
theorem rv_one (r : RecP) (A : Option Addr) (c : Nat) : (rv r A c).all (·.oneCell') = true := by simp [rv, Value.oneCell']
theorem ld_rvR {w : World} {g : Nat} {r : RecP} {A : Option Addr} {c : Nat} (h : Blk w g (rv r A c) 28) : (Instr.loadAt 28 (.pointer (some ⟨g, 0, none⟩))).run Try.prog w = .ok (.agg (rv r A c)) w :=
  run_loadAt_mid w g 0 28 (rv r A c).toList _ (h.range 0 _ rfl) Try.underlying28 rfl (by kernel_rfl)
theorem ld_rvP {w : World} {g : Nat} {r : RecP} {A : Option Addr} {c : Nat} (h : Blk w g (rv r A c) 34) : (Instr.loadAt 34 (.pointer (some ⟨g, 0, none⟩))).run Try.prog w = .ok (.agg (rv r A c)) w :=
  run_loadAt_mid w g 0 34 (rv r A c).toList _ (h.range 0 _ rfl) Try.underlying34 rfl (by kernel_rfl)
/-- A whole struct stored into the block that was just made. -/
theorem put_new (w : World) (z x : Array Value) (T : TypeId) : Blk ((w.alloc (.cells z T)).setRow w.heap.size x) w.heap.size x T ∧ Below w.heap.size w ((w.alloc (.cells z T)).setRow w.heap.size x) :=
  ⟨setRow_heap _ _ _ _ _ _ (Blk.new w z T), below_setRow' (below_alloc (Below.refl _ _) _) (Nat.le_refl _) _⟩
theorem told_rv (r : RecP) (A : Option Addr) (c : Nat) (w : World) : Calls Try.prog 22 #[.agg (rv r A c)] w fun e w' => e = .returned (.agg (rv r A c)) ∧ Below w.heap.size w w' := told_any r.seq r.kind r.id r.gen r.len A r.locs.length c r.ekey r.evol r.eoff r.elen r.dig r.key r.frm r.til w
theorem rsame_rv (a b : RecP) (A D : Option Addr) (c d : Nat) (w : World) (ha : RV w a A c) (hb : RV w b D d) (h1 : a.locs.length ≤ 1000) : Calls Try.prog 21 #[.agg (rv a A c), .agg (rv b D d)] w fun e w' => e = .returned (.bool (decide (a = b))) ∧ Below w.heap.size w w' := rsames_calls a b A D c d w ha.1 hb.1 ha.2 hb.2 h1
theorem read_rv (m : List UInt8) (hm : m.length ≤ 140737488355328) (w : World) : Calls Try.prog 19 #[.string (B m)] w fun e w' => ∃ (A : Option Addr) (c : Nat), e = .returned (.tuple #[.agg (rv (recR m).1 A c), .int .i64 (recR m).2]) ∧ RV w' (recR m).1 A c ∧ Below w.heap.size w w' := by
  refine (recread_calls m hm w).mono ?_
  rintro e w' ⟨A, c, rfl, h1, h2, hB⟩
  exact ⟨A, c, rfl, ⟨h1, h2⟩, hB⟩
/-- What is read holds at most nine places. -/
theorem recR_locs (m : List UInt8) : (recR m).1.locs.length ≤ 9 := by
  unfold recR
  split
  · split
    · exact recS_locs _
    · exact Nat.zero_le _
  · exact Nat.zero_le _
/-- A text that is written is at least four bytes, and few. -/
theorem recW_ok {r : RecP} (h : (recW r).2 = 0) : chkR r = 0 ∧ recW r = (B (sealL (recT r)), 0) := by
  unfold recW at h ⊢
  by_cases hc : chkR r = 0
  · exact ⟨hc, if_pos hc⟩
  · rw [if_neg hc] at h
    exact absurd h hc
end Go.Proofs.Ytkceobahefjlnaa
end
section
/- sluicegateref11.Read: what it takes, told as a plain function; it is what the program reads; its walk. -/
namespace Go.Proofs.Ytkceobahefjlnaa
open Go.RowKit Q Go.Proofs.YtkceobahefjlnaaW.PrintWords Go.Proofs.YtkceobahefjlnaaW.PrintLast Go.Proofs.YtkceobahefjlnaaW.PrintMore
/-- All that is left, as the document's reader tells it. -/
def rrs (s : List UInt8 × Int) : List UInt8 × List UInt8 × Int := if s.2 = 0 then (s.1, [], 0) else ([], [], s.2)
theorem rrs_f (s : List UInt8 × Int) : sluicegateref05_Reader_Rest.f (B s.1) s.2 = some (B (rrs s).1, B (rrs s).2.1, (rrs s).2.2) := by
  obtain ⟨l, e⟩ := s
  unfold sluicegateref05_Reader_Rest.f rrs
  by_cases he : e = 0
  · subst he
    rfl
  · simp only [he, if_false]
    rfl
theorem rtx_ok {s : List UInt8 × Int} (h : (tx s).2.2 = 0) : rtx s = tx s := by
  have hs := (tx_inv2 s h).1
  unfold rtx tx
  rw [if_pos hs, if_pos hs]
theorem rtx_le (s : List UInt8 × Int) : (rtx s).2.1.length ≤ s.1.length := by
  unfold rtx
  split
  · exact (tkT_le _).1
  · exact Nat.zero_le _
theorem rrs_ok {s : List UInt8 × Int} (h : (rst s).2.2 = 0) : rrs s = rst s := by
  have hs := (rst_inv s h).1
  unfold rrs rst
  rw [if_pos hs, if_pos hs]
/-- What is taken behind the first two numbers; and what is left. -/
def refK1 (q d : Nat) (s : List UInt8 × Int) : RecP × List UInt8 × Int := (⟨q, d, 0, 0, 0, [], ⟨#[]⟩, 0, 0, 0, ⟨#[]⟩, B (rtx s).1, 0, 0⟩, (rtx s).2)
def refK0 (q d : Nat) (s : List UInt8 × Int) : RecP × List UInt8 × Int := (⟨q, d, (volS s).1.1, (volS s).1.2.1, (volS s).1.2.2.1, (volS s).1.2.2.2, B (rtx (volS s).2).1, (volS s).1.1, (nx (rtx (volS s).2).2).1, (nx (nx (rtx (volS s).2).2).2).1, B (rrs (nx (nx (rtx (volS s).2).2).2).2).1, ⟨#[]⟩, 0, 0⟩, (rrs (nx (nx (rtx (volS s).2).2).2).2).2)
def refK3 (q d : Nat) (s : List UInt8 × Int) : RecP × List UInt8 × Int := (⟨q, d, (volS s).1.1, (volS s).1.2.1, (volS s).1.2.2.1, (volS s).1.2.2.2, ⟨#[]⟩, 0, 0, 0, ⟨#[]⟩, ⟨#[]⟩, (nx (volS s).2).1, (nx (nx (volS s).2).2).1⟩, (nx (nx (volS s).2).2).2)
def refKx (q d : Nat) (s : List UInt8 × Int) : RecP × List UInt8 × Int := (⟨q, d, (volS s).1.1, (volS s).1.2.1, (volS s).1.2.2.1, (volS s).1.2.2.2, ⟨#[]⟩, 0, 0, 0, ⟨#[]⟩, ⟨#[]⟩, 0, 0⟩, (volS s).2)
def refK (q d : Nat) (s : List UInt8 × Int) : RecP × List UInt8 × Int := if d = 1 then refK1 q d s else if d = 0 then refK0 q d s else if d = 3 then refK3 q d s else refKx q d s
def refTk (l : List UInt8) : RecP × List UInt8 × Int := refK (nx (l, 0)).1 (nx (nx (l, 0)).2).1 (nx (nx (l, 0)).2).2
theorem refK_ok (q d : Nat) (s : List UInt8 × Int) (he : (recK q d s).2 = ([], 0)) (hk : chkR (recK q d s).1 = 0) (hd : (recK q d s).1.kind = d) : refK q d s = recK q d s := by
  have hz := kind_chk _ hk
  rw [hd] at hz
  have hz : d = 0 ∨ d = 1 ∨ d = 2 ∨ d = 3 := by omega
  clear hk hd
  have e2 := congrArg Prod.snd he
  simp only at e2
  clear he
  unfold refK
  rcases hz with rfl | rfl | rfl | rfl
  · rw [recK_0] at e2 ⊢
    rw [if_neg (by decide), if_pos rfl]
    unfold recK0 at e2
    simp only at e2
    obtain ⟨a5, _⟩ := rst_inv (nx (nx (tx (volS s).2).2).2).2 e2
    obtain ⟨a4, _⟩ := nx_inv (nx (tx (volS s).2).2).2 a5
    obtain ⟨a3, _⟩ := nx_inv (tx (volS s).2).2 a4
    unfold refK0 recK0
    rw [rtx_ok a3, rrs_ok e2]
  · rw [recK_1] at e2 ⊢
    rw [if_pos rfl]
    unfold refK1
    rw [rtx_ok e2]
  · rw [recK_2, if_neg (by decide), if_neg (by decide), if_neg (by decide)]
    rfl
  · rw [recK_3, if_neg (by decide), if_neg (by decide), if_pos rfl]
    rfl
/-- What is read, by the document. -/
theorem ref_reads (m u : List UInt8) (ho : openL m = (B u, 0)) (h : 2 ≤ u.length) : recR m = if rend (refTk (u.drop 2)).2 = 0 ∧ (recW (refTk (u.drop 2)).1).2 = 0 ∧ (recW (refTk (u.drop 2)).1).1 = B m then ((refTk (u.drop 2)).1, 0) else (zeroR, 4) := by
  have hm : m = sealL u := by
    rcases openL_cases m with ⟨_, h⟩ | ⟨_, _, h⟩ | ⟨u', h1, h2⟩
    · rw [ho] at h; cases h
    · rw [ho] at h; cases h
    · rw [ho] at h2
      have : u = u' := B_inj (congrArg Prod.fst h2)
      rw [h1, this]
  by_cases hh : rend (refTk (u.drop 2)).2 = 0 ∧ (recW (refTk (u.drop 2)).1).2 = 0 ∧ (recW (refTk (u.drop 2)).1).1 = B m
  · rw [if_pos hh]
    obtain ⟨hc, hw⟩ := recW_ok hh.2.1
    have h3 := hh.2.2
    rw [hw] at h3
    rw [← B_inj h3]
    exact recR_back _ hc
  · rw [if_neg hh]
    by_cases hz : (recR m).2 = 0
    · exfalso
      apply hh
      obtain ⟨h1, h2, h3⟩ := recR_inv m hz
      obtain ⟨p, hp, hs⟩ := recS_back (recR m).1 h3
      have hu : u = [83, 74] ++ p := by
        rw [← hp]
        rw [hm] at h2
        have := congrArg (fun l : List UInt8 => l.take (l.length - 4)) h2
        simp only [take_seal] at this
        rw [← hm] at this
        exact this
      have hl : u.drop 2 = p := by rw [hu]; rfl
      have hr : refTk p = recS p := by
        unfold refTk recS
        unfold recS at hs
        refine refK_ok _ _ _ (by rw [hs]) (by rw [hs]; exact h3) ?_
        unfold recK
        split
        · rfl
        · split
          · rfl
          · split
            · rfl
            · split <;> rfl
      rw [hl, hr, hs]
      refine ⟨rfl, ?_, ?_⟩
      · rw [show recW (recR m).1 = (B (sealL (recT (recR m).1)), 0) from if_pos h3]
      · rw [show recW (recR m).1 = (B (sealL (recT (recR m).1)), 0) from if_pos h3]
        simp only
        rw [← h2]
    · unfold recR at hz ⊢
      have ho2 : (openL m).2 = 0 := by rw [ho]
      rw [if_pos ho2] at hz ⊢
      split
      · rename_i h4
        rw [if_pos h4] at hz
        exact absurd rfl hz
      · rfl
theorem ref_short (m u : List UInt8) (ho : openL m = (B u, 0)) (h : u.length < 2) : recR m = (zeroR, 4) := by
  unfold recR
  have ho2 : (openL m).2 = 0 := by rw [ho]
  rw [if_pos ho2, if_neg]
  rintro ⟨h1, _⟩
  rw [ho] at h1
  unfold cutJ at h1
  split at h1
  · rename_i h2
    have := congrArg List.length h2
    rw [List.length_take] at this
    simp only [List.length_cons, List.length_nil] at this
    have hd : (B u).data.toList = u := rfl
    rw [hd] at this
    omega
  · cases h1
end Go.Proofs.Ytkceobahefjlnaa
/-! The walk. -/
namespace Go.Proofs.Ytkceobahefjlnaa
open Go.RowKit Q Go.Proofs.YtkceobahefjlnaaW.PrintWords Go.Proofs.YtkceobahefjlnaaW.PrintLast Go.Proofs.YtkceobahefjlnaaW.PrintMore
section
variable {P : Program}
theorem results_row_tmp {fn : Func} {p q : Tmp} {ty : TypeId} (h : fn.results = #[.cell p ty, .tmp q]) (tmps : Array Value) (w : World) (g : Nat) (t : TypeId) (cs : Array Value) (fr : Nat × Nat) (d : TypeDesc)
    (hp : tmps.getD p undef = .pointer (some ⟨g, 0, none⟩)) (hg : w.heap[g]? = some (.cells cs t fr))
    (hu : P.underlying ty = some d) (hd : (match d with | .struct _ | .array _ _ => true | _ => false) = true) (hi : (P.info? ty).map (·.size) = some cs.size) :
    (results fn tmps).run P w = .ok (.tuple #[.agg cs, tmps.getD q undef]) w := by
  have hp' : tmps[p]?.getD undef = .pointer (some ⟨g, 0, none⟩) := by simpa using hp
  simp [results, h, hp', asAddr, run_loadVar_row w g t ty cs fr d hg hu hd hi]
end
theorem setCells_heap (g k : Nat) (hk : k ≠ g) : ∀ (vs : List Value) (o : Nat) (W : World), (W.setCells g o vs).heap[k]? = W.heap[k]?
  | [], _, _ => rfl
  | v :: r, o, W => (setCells_heap g k hk r (o + 1) (W.setCell ⟨g, o, none⟩ v)).trans (Below.heap_setCell _ _ _ _ hk)
theorem rwrite_rv (r : RecP) (A : Option Addr) (c : Nat) (w : World) (h : RV w r A c) (hl : r.locs.length ≤ 1000) (h6 : r.ekey.size ≤ 140737488355328) (h11 : r.key.size ≤ 140737488355328) : Calls Try.prog 13 #[.agg (rv r A c)] w fun e w' => e = .returned (.tuple #[.string (recW r).1, .int .i64 (recW r).2]) ∧ Below w.heap.size w w' := refwrite_calls r A c w h.1 hl h.2 h6 h11
theorem rtxt_st (s : List UInt8 × Int) (h : s.1.length ≤ 140737488355328) {n : List UInt8} {t : List UInt8 × Int} (e : rtx s = (n, t)) : sluicegateref05_Reader_Text.f 20 (B s.1) s.2 = some (B n, B t.1, t.2) := by
  have := rrt_f s h
  rw [e] at this
  exact this
theorem rtx_st {s : List UInt8 × Int} (h : s.1.length ≤ 140737488355328) {n : List UInt8} {t : List UInt8 × Int} (e : rtx s = (n, t)) : t.1.length ≤ 140737488355328 := by
  have := rtx_le s
  rw [e] at this
  exact Nat.le_trans this h
theorem rtx_len (s : List UInt8 × Int) (h : s.1.length ≤ 140737488355328) {n : List UInt8} {t : List UInt8 × Int} (e : rtx s = (n, t)) : n.length ≤ 140737488355328 := by
  have h2 : (rtx s).1.length ≤ s.1.length := by
    unfold rtx
    split
    · exact (tkT_le _).2
    · exact Nat.zero_le _
  rw [e] at h2
  exact Nat.le_trans h2 h
theorem vol_st {s : List UInt8 × Int} (h : s.1.length ≤ 140737488355328) {v : Int × Int × Int × List S67} {t : List UInt8 × Int} (e : volS s = (v, t)) : t.1.length ≤ 140737488355328 := by
  have := volS_le s
  rw [e] at this
  exact Nat.le_trans this h
theorem vol_len9 {s : List UInt8 × Int} {vi vg vn : Int} {vl : List S67} {t : List UInt8 × Int} (e : volS s = ((vi, vg, vn, vl), t)) : vl.length = 9 := by
  have : (volS s).1.2.2.2.length = 9 := locsN_len 9 _
  rw [e] at this
  exact this
theorem refvol_st (g : Nat) (s : List UInt8 × Int) (w0 w : World) (hs : s.1.length ≤ 140737488355328) (hI : IsS87 w0 w g (B s.1) s.2) (hB : Below w0.heap.size w0 w) {vi vg vn : Int} {vl : List S67} {t : List UInt8 × Int} (e : volS s = ((vi, vg, vn, vl), t)) : Calls Try.prog 50 #[.pointer (some ⟨g, 0, none⟩)] w fun e w' => ∃ (A : Option Addr) (c : Nat), e = .returned (.agg #[.int .i64 vi, .int .i64 vg, .int .i64 vn, .slice A vl.length c]) ∧ Kd.R k67 67 w' w.heap.size (fun k => w.heap.size ≤ k) (.slice A vl.length c) vl ∧ IsS87 w0 w' g (B t.1) t.2 ∧ Below w0.heap.size w0 w' ∧ KeepBut w w' g none := by
  have h := refvol_calls g s w0 w hs hI hB
  rw [e] at h
  exact h
theorem rrs_st (s : List UInt8 × Int) {n : List UInt8} {t : List UInt8 × Int} (e : rrs s = (n, t)) : sluicegateref05_Reader_Rest.f (B s.1) s.2 = some (B n, B t.1, t.2) := by
  have := rrs_f s
  rw [e] at this
  exact this
set_option maxRecDepth 100000 in
set_option maxHeartbeats 4000000 in
theorem rread_rv (m : List UInt8) (hm : m.length ≤ 140737488355328) (w : World) : Calls Try.prog 20 #[.string (B m)] w fun e w' => ∃ (A : Option Addr) (c : Nat), e = .returned (.tuple #[.agg (rv (recR m).1 A c), .int .i64 (recR m).2]) ∧ RV w' (recR m).1 A c ∧ Below w.heap.size w w' := by
  have hu0 := Try.underlying28
  have hu1 := Try.underlying34
  have hu2 := Try.underlying24
  have hu3 := Try.underlying26
  have hu4 := Try.underlying67
  have HO0 := Lib.hid (ropen_f m hm)
  have HR : Aside0 (Blk (w.alloc (.cells #[.int .i64 0, .int .i64 0, .int .i64 0, .int .i64 0, .int .i64 0, .slice none 0 0, .string ⟨#[]⟩, .int .i64 0, .int .i64 0, .int .i64 0, .string ⟨#[]⟩, .string ⟨#[]⟩, .int .i64 0, .int .i64 0] 28)) w.heap.size #[.int .i64 0, .int .i64 0, .int .i64 0, .int .i64 0, .int .i64 0, .slice none 0 0, .string ⟨#[]⟩, .int .i64 0, .int .i64 0, .int .i64 0, .string ⟨#[]⟩, .string ⟨#[]⟩, .int .i64 0, .int .i64 0] 28) := ⟨Blk.new w _ _⟩
  have HB : Aside0 (Below w.heap.size w (w.alloc (.cells #[.int .i64 0, .int .i64 0, .int .i64 0, .int .i64 0, .int .i64 0, .slice none 0 0, .string ⟨#[]⟩, .int .i64 0, .int .i64 0, .int .i64 0, .string ⟨#[]⟩, .string ⟨#[]⟩, .int .i64 0, .int .i64 0] 28))) := ⟨below_alloc (Below.refl _ _) _⟩
  go_enter Try.func20, Try.ntmps20
  go_wp2_with fail
  refine Calls.mono (sluicegateref04_Open.calls _ (openL m).1 (openL m).2 _ HO0.out) ?_
  rintro e w1 ⟨rfl, b1⟩
  replace HR := Aside0.mk (HR.out.keep b1)
  replace HB := Aside0.mk (below2 HB.out HB.out.size b1)
  clear b1 HO0
  obtain ⟨o1, e1, ho⟩ : ∃ o1 e1, openL m = (o1, e1) := ⟨_, _, rfl⟩
  rw [ho]
  by_cases he : e1 = 0
  case neg =>
    have HRES : Hid (recR m = (zeroR, e1)) := Lib.hid (by unfold recR; rw [ho, if_neg he])
    have he2 : (e1 != 0) = true := bne_iff_ne.mpr he
    clear he ho
    go_wp2_with (first | (refine gate_ (.store 28 (.tmp 2) (.tmp 17)) rfl ?_; refine wpList_store_row rfl 28 (.tmp 2) (.tmp 17) rfl w.heap.size (rv zeroR none 0) rfl rfl 28 _ HR.out (by kernel_rfl) rfl (rv_one _ _ _) ?_; simp only [Act.put, List.setIfInBounds_toArray, List.set_cons_zero, List.set_cons_succ]))
    refine bodyPost_ret (results_row_tmp rfl _ _ w.heap.size 28 (rv zeroR none 0) (0, 0) _ rfl (setRow_heap _ _ _ _ _ _ HR.out) Try.underlying28 rfl (by kernel_rfl)) rfl ?_
    rw [HRES.out]
    exact ⟨none, 0, rfl, ⟨Kd.C_nil _ _, Nat.zero_le _⟩, below_setRow' HB.out (Nat.le_refl _) _⟩
  subst he
  obtain ⟨u, rfl⟩ := exB o1
  by_cases hu2 : u.length < 2
  case pos =>
    have HRES := Lib.hid (ref_short m u ho hu2)
    have hs : (B u).size < 2 := by rw [B_size]; exact hu2
    clear ho hu2
    go_wp2_with (first | (refine gate_ (.store 28 (.tmp 2) (.tmp 22)) rfl ?_; refine wpList_store_row rfl 28 (.tmp 2) (.tmp 22) rfl w.heap.size (rv zeroR none 0) rfl rfl 28 _ HR.out (by kernel_rfl) rfl (rv_one _ _ _) ?_; simp only [Act.put, List.setIfInBounds_toArray, List.set_cons_zero, List.set_cons_succ]))
    refine bodyPost_ret (results_row_tmp rfl _ _ w.heap.size 28 (rv zeroR none 0) (0, 0) _ rfl (setRow_heap _ _ _ _ _ _ HR.out) Try.underlying28 rfl (by kernel_rfl)) rfl ?_
    rw [HRES.out]
    exact ⟨none, 0, rfl, ⟨Kd.C_nil _ _, Nat.zero_le _⟩, below_setRow' HB.out (Nat.le_refl _) _⟩
  have HRES := Lib.hid (ref_reads m u ho (by omega))
  have hs1 : 2 ≤ (B u).size := by rw [B_size]; omega
  have hs2 : ¬ (B u).size < 2 := by omega
  have hul : u.length ≤ m.length := by
    rcases openL_cases m with ⟨_, h⟩ | ⟨_, _, h⟩ | ⟨u', h1, h2⟩
    · rw [ho] at h; cases h
    · rw [ho] at h; cases h
    · rw [ho] at h2
      have : u = u' := B_inj (congrArg Prod.fst h2)
      rw [h1, sealL_len, this]
      exact Nat.le_add_right _ _
  obtain ⟨l, hl⟩ : ∃ l, u.drop 2 = l := ⟨_, rfl⟩
  rw [hl] at HRES
  have HX : Hid ((B u).extract 2 (B u).size = B l) := Lib.hid (by rw [B_extract, hl, B_size, List.take_of_length_le (by rw [← hl, List.length_drop]; exact Nat.le_refl _)])
  have hll : l.length ≤ 140737488355328 := by rw [← hl, List.length_drop]; omega
  have HIN := Aside0.mk (IsS87.new w w1 (B l) 0 HB.out)
  have hgg : w.heap.size < w1.heap.size := HR.out.lt
  clear ho hl hul hu2 hm
  go_wp2_with (first | (refine gate_ (.store 28 (.tmp 7) (.tmp 27)) rfl ?_; rw [HX.out]; refine wpList_store_row rfl 28 (.tmp 7) (.tmp 27) rfl (w1.heap.size + 1) #[.int .i64 0, .int .i64 0, .int .i64 0, .int .i64 0, .int .i64 0, .slice none 0 0, .string ⟨#[]⟩, .int .i64 0, .int .i64 0, .int .i64 0, .string ⟨#[]⟩, .string ⟨#[]⟩, .int .i64 0, .int .i64 0] rfl rfl 28 #[.int .i64 0, .int .i64 0, .int .i64 0, .int .i64 0, .int .i64 0, .slice none 0 0, .string ⟨#[]⟩, .int .i64 0, .int .i64 0, .int .i64 0, .string ⟨#[]⟩, .string ⟨#[]⟩, .int .i64 0, .int .i64 0] (by have := Blk.new (w1.alloc (.cells #[.string (B l), .int .i64 0] 87)) #[.int .i64 0, .int .i64 0, .int .i64 0, .int .i64 0, .int .i64 0, .slice none 0 0, .string ⟨#[]⟩, .int .i64 0, .int .i64 0, .int .i64 0, .string ⟨#[]⟩, .string ⟨#[]⟩, .int .i64 0, .int .i64 0] 28; rw [World.size_alloc] at this; exact this) (by kernel_rfl) rfl (rv_one zeroR none 0) ?_; simp only [Act.put, List.setIfInBounds_toArray, List.set_cons_zero, List.set_cons_succ]; have hp := put_new (w1.alloc (.cells #[.string (B l), .int .i64 0] 87)) #[.int .i64 0, .int .i64 0, .int .i64 0, .int .i64 0, .int .i64 0, .slice none 0 0, .string ⟨#[]⟩, .int .i64 0, .int .i64 0, .int .i64 0, .string ⟨#[]⟩, .string ⟨#[]⟩, .int .i64 0, .int .i64 0] #[.int .i64 0, .int .i64 0, .int .i64 0, .int .i64 0, .int .i64 0, .slice none 0 0, .string ⟨#[]⟩, .int .i64 0, .int .i64 0, .int .i64 0, .string ⟨#[]⟩, .string ⟨#[]⟩, .int .i64 0, .int .i64 0] 28; rw [World.size_alloc] at hp; generalize ((w1.alloc (.cells #[.string (B l), .int .i64 0] 87)).alloc (.cells #[.int .i64 0, .int .i64 0, .int .i64 0, .int .i64 0, .int .i64 0, .slice none 0 0, .string ⟨#[]⟩, .int .i64 0, .int .i64 0, .int .i64 0, .string ⟨#[]⟩, .string ⟨#[]⟩, .int .i64 0, .int .i64 0] 28)).setRow (w1.heap.size + 1) #[.int .i64 0, .int .i64 0, .int .i64 0, .int .i64 0, .int .i64 0, .slice none 0 0, .string ⟨#[]⟩, .int .i64 0, .int .i64 0, .int .i64 0, .string ⟨#[]⟩, .string ⟨#[]⟩, .int .i64 0, .int .i64 0] = wr at hp ⊢))
  have hp2 := hp.2
  rw [← World.size_alloc w1 (.cells #[.string (B l), .int .i64 0] 87)] at hp2
  have HI := Aside0.mk (HIN.out.below hp2)
  replace HR := Aside0.mk ((HR.out.alloc (.cells #[.string (B l), .int .i64 0] 87)).keep hp2)
  replace HB := Aside0.mk (below2 (below_alloc HB.out (.cells #[.string (B l), .int .i64 0] 87)) (below_alloc HB.out (.cells #[.string (B l), .int .i64 0] 87)).size hp2)
  have HH := Aside0.mk hp.1
  clear hp hp2 HIN HX hs1 hs2
  generalize w1.heap.size = g at *
  obtain ⟨⟨q, s1⟩, e1⟩ : ∃ p, nx (l, 0) = p := ⟨_, rfl⟩
  obtain ⟨⟨d, s2⟩, e2⟩ : ∃ p, nx s1 = p := ⟨_, rfl⟩
  have hs1 := nx_st (s := (l, 0)) hll e1
  have hs2 := nx_st hs1 e2
  have HN1 := Lib.hid (rnum_st (l, 0) hll e1)
  have HN2 := Lib.hid (rnum_st s1 hs1 e2)
  unfold refTk at HRES
  rw [e1] at HRES
  simp only at HRES
  rw [e2] at HRES
  simp only at HRES
  clear e1 e2 hll hs1
  refine Calls.mono (sluicegateref05_Reader_Number.calls 20 g _ _ _ _ _ w _ HI.out HB.out HN1.out) ?_
  rintro e w4 ⟨rfl, hI4, hB4, hK4⟩
  replace HI := Aside0.mk hI4
  replace HB := Aside0.mk hB4
  replace HR := Aside0.mk (HR.out.but hK4 (by omega))
  replace HH := Aside0.mk (HH.out.but hK4 (by omega))
  clear hI4 hB4 hK4
  have hc := HH.out.cell (i := 0) (v := .int .i64 0) rfl
  have hf := HH.out.free 0
  go_wp2_with fail
  clear hc hf
  replace HH := Aside0.mk (show Blk (w4.setCell ⟨g + 1, 0, none⟩ (.int .i64 (q : Int))) (g + 1) #[.int .i64 (q : Int), .int .i64 0, .int .i64 0, .int .i64 0, .int .i64 0, .slice none 0 0, .string ⟨#[]⟩, .int .i64 0, .int .i64 0, .int .i64 0, .string ⟨#[]⟩, .string ⟨#[]⟩, .int .i64 0, .int .i64 0] 28 from HH.out.set 0 (.int .i64 (q : Int)))
  replace HR := Aside0.mk (HR.out.other (g' := g + 1) (by omega) 0 (.int .i64 (q : Int)))
  replace HI := Aside0.mk (HI.out.far (p := ⟨g + 1, 0, none⟩) (by show g ≠ g + 1; omega) (.int .i64 (q : Int)))
  replace HB := Aside0.mk (HB.out.setCell (p := ⟨g + 1, 0, none⟩) (by show w.heap.size ≤ g + 1; omega) (.int .i64 (q : Int)))
  generalize w4.setCell ⟨g + 1, 0, none⟩ (.int .i64 (q : Int)) = wr at *
  clear HN1
  refine Calls.mono (sluicegateref05_Reader_Number.calls 20 g _ _ _ _ _ w _ HI.out HB.out HN2.out) ?_
  rintro e w4 ⟨rfl, hI4, hB4, hK4⟩
  replace HI := Aside0.mk hI4
  replace HB := Aside0.mk hB4
  replace HR := Aside0.mk (HR.out.but hK4 (by omega))
  replace HH := Aside0.mk (HH.out.but hK4 (by omega))
  clear hI4 hB4 hK4
  clear HN2
  by_cases hd1 : d = 1
  case pos =>
    have hd0 : ¬ d = 0 := by omega
    have hd3 : ¬ d = 3 := by omega
    obtain ⟨⟨kt, s3⟩, e3⟩ : ∃ p, rtx s2 = p := ⟨_, rfl⟩
    have hkt := rtx_len s2 hs2 e3
    have HN3 := Lib.hid (rtxt_st s2 hs2 e3)
    have hK : refK q d s2 = ((⟨(q : Int), (d : Int), 0, 0, 0, [], ⟨#[]⟩, 0, 0, 0, ⟨#[]⟩, B kt, 0, 0⟩ : RecP), s3) := by unfold refK; rw [if_pos hd1]; unfold refK1; simp only [e3]
    rw [hK] at HRES
    simp only at HRES
    clear hK
    have HL9 : Hid ((⟨(q : Int), (d : Int), 0, 0, 0, [], ⟨#[]⟩, 0, 0, 0, ⟨#[]⟩, B kt, 0, 0⟩ : RecP).locs.length ≤ 1000) := Lib.hid (by exact Nat.zero_le _)
    have HL6 : Hid ((⟨(q : Int), (d : Int), 0, 0, 0, [], ⟨#[]⟩, 0, 0, 0, ⟨#[]⟩, B kt, 0, 0⟩ : RecP).ekey.size ≤ 140737488355328) := Lib.hid (by exact Nat.zero_le _)
    have HL11 : Hid ((⟨(q : Int), (d : Int), 0, 0, 0, [], ⟨#[]⟩, 0, 0, 0, ⟨#[]⟩, B kt, 0, 0⟩ : RecP).key.size ≤ 140737488355328) := Lib.hid (by show (B kt).size ≤ _; rw [B_size]; exact hkt)
    have f1 : ((d : Int) == 1) = true := beq_iff_eq.mpr (by omega)
    have f0 : ((d : Int) == 0) = false := beq_eq_false_iff_ne.mpr (by omega)
    have f3 : ((d : Int) == 3) = false := beq_eq_false_iff_ne.mpr (by omega)
    clear e3 hkt hd0 hd1 hd3 hs2
    have hc := HH.out.cell (i := 1) (v := .int .i64 0) rfl
    have hf := HH.out.free 1
    go_wp2_with fail
    clear hc hf
    replace HH := Aside0.mk (show Blk (w4.setCell ⟨g + 1, 1, none⟩ (.int .i64 (d : Int))) (g + 1) #[.int .i64 (q : Int), .int .i64 (d : Int), .int .i64 0, .int .i64 0, .int .i64 0, .slice none 0 0, .string ⟨#[]⟩, .int .i64 0, .int .i64 0, .int .i64 0, .string ⟨#[]⟩, .string ⟨#[]⟩, .int .i64 0, .int .i64 0] 28 from HH.out.set 1 (.int .i64 (d : Int)))
    replace HR := Aside0.mk (HR.out.other (g' := g + 1) (by omega) 1 (.int .i64 (d : Int)))
    replace HI := Aside0.mk (HI.out.far (p := ⟨g + 1, 1, none⟩) (by show g ≠ g + 1; omega) (.int .i64 (d : Int)))
    replace HB := Aside0.mk (HB.out.setCell (p := ⟨g + 1, 1, none⟩) (by show w.heap.size ≤ g + 1; omega) (.int .i64 (d : Int)))
    generalize w4.setCell ⟨g + 1, 1, none⟩ (.int .i64 (d : Int)) = wr at *
    refine Calls.mono (sluicegateref05_Reader_Text.calls 20 g _ _ _ _ _ w _ HI.out HB.out HN3.out) ?_
    rintro e w4 ⟨rfl, hI4, hB4, hK4⟩
    replace HI := Aside0.mk hI4
    replace HB := Aside0.mk hB4
    replace HR := Aside0.mk (HR.out.but hK4 (by omega))
    replace HH := Aside0.mk (HH.out.but hK4 (by omega))
    clear hI4 hB4 hK4
    clear HN3
    have hc := HH.out.cell (i := 11) (v := .string ⟨#[]⟩) rfl
    have hf := HH.out.free 11
    have c1 := HH.out.cell (i := 1) (v := .int .i64 (d : Int)) rfl
    have HX : Aside0 (Blk (w4.setCell ⟨g + 1, 11, none⟩ (.string (B kt))) (g + 1) (rv (⟨(q : Int), (d : Int), 0, 0, 0, [], ⟨#[]⟩, 0, 0, 0, ⟨#[]⟩, B kt, 0, 0⟩ : RecP) none 0) 28) := ⟨HH.out.set 11 (.string (B kt))⟩
    replace HR := Aside0.mk (HR.out.other (g' := g + 1) (by omega) 11 (.string (B kt)))
    replace HI := Aside0.mk (HI.out.far (p := ⟨g + 1, 11, none⟩) (by show g ≠ g + 1; omega) (.string (B kt)))
    replace HB := Aside0.mk (HB.out.setCell (p := ⟨g + 1, 11, none⟩) (by show w.heap.size ≤ g + 1; omega) (.string (B kt)))
    go_wp2_with (first | (refine gate_ (.load 28 (.tmp 7)) rfl ?_; refine wpList_load_row rfl 28 (.tmp 7) rfl (g + 1) rfl _ (rv (⟨(q : Int), (d : Int), 0, 0, 0, [], ⟨#[]⟩, 0, 0, 0, ⟨#[]⟩, B kt, 0, 0⟩ : RecP) none 0) (0, 0) _ HX.out Try.underlying28 rfl (by kernel_rfl) ?_; simp only [Act.put, List.setIfInBounds_toArray, List.set_cons_zero, List.set_cons_succ]))
    clear hc hf c1
    generalize w4.setCell ⟨g + 1, 11, none⟩ (.string (B kt)) = wr at *
    clear f0 f1 f3
    clear HH
    have HV : Aside0 (RV wr (⟨(q : Int), (d : Int), 0, 0, 0, [], ⟨#[]⟩, 0, 0, 0, ⟨#[]⟩, B kt, 0, 0⟩ : RecP) none 0) := ⟨Kd.C_nil _ _, Nat.zero_le _⟩
    refine (rwrite_rv (⟨(q : Int), (d : Int), 0, 0, 0, [], ⟨#[]⟩, 0, 0, 0, ⟨#[]⟩, B kt, 0, 0⟩ : RecP) none 0 _ HV.out HL9.out HL6.out HL11.out).mono ?_
    rintro e w5 ⟨rfl, b1⟩
    replace HI := Aside0.mk (HI.out.below b1)
    replace HR := Aside0.mk (HR.out.keep b1)
    replace HX := Aside0.mk (HX.out.keep b1)
    replace HB := Aside0.mk (below2 HB.out HB.out.size b1)
    clear b1 HV
    go_wp2_with fail
    refine Calls.mono (sluicegateref05_Reader_End.calls g _ _ _ _ _ w _ HI.out HB.out (rre_f s3)) ?_
    rintro e w6 ⟨rfl, hI4, hB4, hK4⟩
    replace HR := Aside0.mk (HR.out.but hK4 (by omega))
    replace HX := Aside0.mk (HX.out.but hK4 (by omega))
    replace HB := Aside0.mk hB4
    clear hI4 hB4 hK4 HI
    generalize rend s3 = en at HRES ⊢
    obtain ⟨⟨ws, wz⟩, hw⟩ : ∃ p, recW (⟨(q : Int), (d : Int), 0, 0, 0, [], ⟨#[]⟩, 0, 0, 0, ⟨#[]⟩, B kt, 0, 0⟩ : RecP) = p := ⟨_, rfl⟩
    rw [hw] at HRES ⊢
    clear hw
    by_cases h1 : en = 0
    · by_cases h2 : wz = 0
      · by_cases h3 : ws = B m
        · subst h1 h2 h3
          replace HRES := Lib.hid (HRES.out.trans (if_pos ⟨rfl, rfl, rfl⟩))
          go_wp2_with (first | (refine gate_ (.load 28 (.tmp 7)) rfl ?_; refine wpList_load_row rfl 28 (.tmp 7) rfl (g + 1) rfl _ (rv (⟨(q : Int), (d : Int), 0, 0, 0, [], ⟨#[]⟩, 0, 0, 0, ⟨#[]⟩, B kt, 0, 0⟩ : RecP) none 0) (0, 0) _ HX.out Try.underlying28 rfl (by kernel_rfl) ?_; simp only [Act.put, List.setIfInBounds_toArray, List.set_cons_zero, List.set_cons_succ]) | (refine gate_ (.store 28 (.tmp 2) (.tmp 94)) rfl ?_; refine wpList_store_row rfl 28 (.tmp 2) (.tmp 94) rfl w.heap.size (rv (⟨(q : Int), (d : Int), 0, 0, 0, [], ⟨#[]⟩, 0, 0, 0, ⟨#[]⟩, B kt, 0, 0⟩ : RecP) none 0) rfl rfl 28 _ HR.out (by kernel_rfl) rfl (rv_one _ _ _) ?_; simp only [Act.put, List.setIfInBounds_toArray, List.set_cons_zero, List.set_cons_succ]))
          refine bodyPost_ret (results_row_tmp rfl _ _ w.heap.size 28 (rv (⟨(q : Int), (d : Int), 0, 0, 0, [], ⟨#[]⟩, 0, 0, 0, ⟨#[]⟩, B kt, 0, 0⟩ : RecP) none 0) (0, 0) _ rfl (setRow_heap _ _ _ _ _ _ HR.out) Try.underlying28 rfl (by kernel_rfl)) rfl ?_
          rw [HRES.out]
          exact ⟨none, 0, rfl, ⟨Kd.C_nil _ _, Nat.zero_le _⟩, below_setRow' HB.out (Nat.le_refl _) _⟩
        · replace HRES := Lib.hid (HRES.out.trans (if_neg (fun h => h3 h.2.2)))
          have h4 : (ws.toList == (B m).toList) = false := by rw [beq_eq_false_iff_ne]; exact fun h => h3 (eq_of_toList h)
          have h5 : (ws.toList != (B m).toList) = true := by rw [bne, h4]; rfl
          subst h1 h2
          clear h3
          go_wp2_with (first | (refine gate_ (.store 28 (.tmp 2) (.tmp 93)) rfl ?_; refine wpList_store_row rfl 28 (.tmp 2) (.tmp 93) rfl w.heap.size (rv zeroR none 0) rfl rfl 28 _ HR.out (by kernel_rfl) rfl (rv_one _ _ _) ?_; simp only [Act.put, List.setIfInBounds_toArray, List.set_cons_zero, List.set_cons_succ]))
          refine bodyPost_ret (results_row_tmp rfl _ _ w.heap.size 28 (rv zeroR none 0) (0, 0) _ rfl (setRow_heap _ _ _ _ _ _ HR.out) Try.underlying28 rfl (by kernel_rfl)) rfl ?_
          rw [HRES.out]
          exact ⟨none, 0, rfl, ⟨Kd.C_nil _ _, Nat.zero_le _⟩, below_setRow' HB.out (Nat.le_refl _) _⟩
      · replace HRES := Lib.hid (HRES.out.trans (if_neg (fun h => h2 h.2.1)))
        have h4 : (wz != 0) = true := bne_iff_ne.mpr h2
        subst h1
        clear h2
        go_wp2_with (first | (refine gate_ (.store 28 (.tmp 2) (.tmp 93)) rfl ?_; refine wpList_store_row rfl 28 (.tmp 2) (.tmp 93) rfl w.heap.size (rv zeroR none 0) rfl rfl 28 _ HR.out (by kernel_rfl) rfl (rv_one _ _ _) ?_; simp only [Act.put, List.setIfInBounds_toArray, List.set_cons_zero, List.set_cons_succ]))
        refine bodyPost_ret (results_row_tmp rfl _ _ w.heap.size 28 (rv zeroR none 0) (0, 0) _ rfl (setRow_heap _ _ _ _ _ _ HR.out) Try.underlying28 rfl (by kernel_rfl)) rfl ?_
        rw [HRES.out]
        exact ⟨none, 0, rfl, ⟨Kd.C_nil _ _, Nat.zero_le _⟩, below_setRow' HB.out (Nat.le_refl _) _⟩
    · replace HRES := Lib.hid (HRES.out.trans (if_neg (fun h => h1 h.1)))
      have h4 : (en != 0) = true := bne_iff_ne.mpr h1
      clear h1
      go_wp2_with (first | (refine gate_ (.store 28 (.tmp 2) (.tmp 93)) rfl ?_; refine wpList_store_row rfl 28 (.tmp 2) (.tmp 93) rfl w.heap.size (rv zeroR none 0) rfl rfl 28 _ HR.out (by kernel_rfl) rfl (rv_one _ _ _) ?_; simp only [Act.put, List.setIfInBounds_toArray, List.set_cons_zero, List.set_cons_succ]))
      refine bodyPost_ret (results_row_tmp rfl _ _ w.heap.size 28 (rv zeroR none 0) (0, 0) _ rfl (setRow_heap _ _ _ _ _ _ HR.out) Try.underlying28 rfl (by kernel_rfl)) rfl ?_
      rw [HRES.out]
      exact ⟨none, 0, rfl, ⟨Kd.C_nil _ _, Nat.zero_le _⟩, below_setRow' HB.out (Nat.le_refl _) _⟩
  obtain ⟨⟨⟨vi, vg, vn, vl⟩, s3⟩, ev⟩ : ∃ p, volS s2 = p := ⟨_, rfl⟩
  have h9 := vol_len9 ev
  have hs3 := vol_st hs2 ev
  have HEV := Lib.hid ev
  by_cases hd0 : d = 0
  case pos =>
    obtain ⟨⟨kt, s4⟩, e3⟩ : ∃ p, rtx s3 = p := ⟨_, rfl⟩
    obtain ⟨⟨o, s5⟩, e4⟩ : ∃ p, nx s4 = p := ⟨_, rfl⟩
    obtain ⟨⟨ln, s6⟩, e5⟩ : ∃ p, nx s5 = p := ⟨_, rfl⟩
    obtain ⟨⟨dg, s7⟩, e6⟩ : ∃ p, rrs s6 = p := ⟨_, rfl⟩
    have hkt := rtx_len s3 hs3 e3
    have hs4 := rtx_st hs3 e3
    have hs5 := nx_st hs4 e4
    have HN3 := Lib.hid (rtxt_st s3 hs3 e3)
    have HN4 := Lib.hid (rnum_st s4 hs4 e4)
    have HN5 := Lib.hid (rnum_st s5 hs5 e5)
    have HN6 := Lib.hid (rrs_st s6 e6)
    have hK : refK q d s2 = ((⟨(q : Int), (d : Int), vi, vg, vn, vl, B kt, vi, (o : Int), (ln : Int), B dg, ⟨#[]⟩, 0, 0⟩ : RecP), s7) := by unfold refK; rw [if_neg hd1, if_pos hd0]; unfold refK0; simp only [ev, e3, e4, e5, e6]
    rw [hK] at HRES
    simp only at HRES
    clear hK
    have HL9 : Hid ((⟨(q : Int), (d : Int), vi, vg, vn, vl, B kt, vi, (o : Int), (ln : Int), B dg, ⟨#[]⟩, 0, 0⟩ : RecP).locs.length ≤ 1000) := Lib.hid (by show vl.length ≤ 1000; rw [h9]; decide)
    have HL6 : Hid ((⟨(q : Int), (d : Int), vi, vg, vn, vl, B kt, vi, (o : Int), (ln : Int), B dg, ⟨#[]⟩, 0, 0⟩ : RecP).ekey.size ≤ 140737488355328) := Lib.hid (by show (B kt).size ≤ _; rw [B_size]; exact hkt)
    have HL11 : Hid ((⟨(q : Int), (d : Int), vi, vg, vn, vl, B kt, vi, (o : Int), (ln : Int), B dg, ⟨#[]⟩, 0, 0⟩ : RecP).key.size ≤ 140737488355328) := Lib.hid (by exact Nat.zero_le _)
    have f1 : ((d : Int) == 1) = false := beq_eq_false_iff_ne.mpr (by omega)
    have f0 : ((d : Int) == 0) = true := beq_iff_eq.mpr (by omega)
    have f3 : ((d : Int) == 3) = false := beq_eq_false_iff_ne.mpr (by omega)
    clear e3 e4 e5 e6 ev hkt h9 hs3 hs4 hs5 hd0 hd1
    have hc := HH.out.cell (i := 1) (v := .int .i64 0) rfl
    have hf := HH.out.free 1
    go_wp2_with fail
    clear hc hf
    replace HH := Aside0.mk (show Blk (w4.setCell ⟨g + 1, 1, none⟩ (.int .i64 (d : Int))) (g + 1) #[.int .i64 (q : Int), .int .i64 (d : Int), .int .i64 0, .int .i64 0, .int .i64 0, .slice none 0 0, .string ⟨#[]⟩, .int .i64 0, .int .i64 0, .int .i64 0, .string ⟨#[]⟩, .string ⟨#[]⟩, .int .i64 0, .int .i64 0] 28 from HH.out.set 1 (.int .i64 (d : Int)))
    replace HR := Aside0.mk (HR.out.other (g' := g + 1) (by omega) 1 (.int .i64 (d : Int)))
    replace HI := Aside0.mk (HI.out.far (p := ⟨g + 1, 1, none⟩) (by show g ≠ g + 1; omega) (.int .i64 (d : Int)))
    replace HB := Aside0.mk (HB.out.setCell (p := ⟨g + 1, 1, none⟩) (by show w.heap.size ≤ g + 1; omega) (.int .i64 (d : Int)))
    generalize w4.setCell ⟨g + 1, 1, none⟩ (.int .i64 (d : Int)) = wr at *
    have hgz : g + 1 < wr.heap.size := HH.out.lt
    refine Calls.mono (refvol_st g s2 w _ hs2 HI.out HB.out HEV.out) ?_
    rintro e w4 ⟨A, c, rfl, hO, hI4, hB4, hK4⟩
    have HO := Aside0.mk hO
    clear hO
    generalize wr.heap.size = bz at HO hgz
    replace HI := Aside0.mk hI4
    replace HB := Aside0.mk hB4
    replace HR := Aside0.mk (HR.out.but hK4 (by omega))
    replace HH := Aside0.mk (HH.out.but hK4 (by omega))
    clear hI4 hB4 hK4
    go_wp2_with (first | (refine gate_ (.store 24 (.tmp 42) (.tmp 41)) rfl ?_; refine wpList_store_mid rfl 24 (.tmp 42) (.tmp 41) rfl (g + 1) 2 #[.int .i64 vi, .int .i64 vg, .int .i64 vn, .slice A vl.length c] rfl rfl (HH.out.there 2 4 (show 6 ≤ 14 by decide)) (by kernel_rfl) (by simp [Value.oneCell']) ?_; simp only [Act.put, List.setIfInBounds_toArray, List.set_cons_zero, List.set_cons_succ]; have HH2 : Aside0 (Blk (w4.setCells (g + 1) 2 (Array.toList #[.int .i64 vi, .int .i64 vg, .int .i64 vn, .slice A vl.length c])) (g + 1) #[.int .i64 (q : Int), .int .i64 (d : Int), .int .i64 vi, .int .i64 vg, .int .i64 vn, .slice A vl.length c, .string ⟨#[]⟩, .int .i64 0, .int .i64 0, .int .i64 0, .string ⟨#[]⟩, .string ⟨#[]⟩, .int .i64 0, .int .i64 0] 28) := ⟨HH.out.setCells _ 2⟩; have HR2 : Aside0 (Blk (w4.setCells (g + 1) 2 (Array.toList #[.int .i64 vi, .int .i64 vg, .int .i64 vn, .slice A vl.length c])) w.heap.size #[.int .i64 0, .int .i64 0, .int .i64 0, .int .i64 0, .int .i64 0, .slice none 0 0, .string ⟨#[]⟩, .int .i64 0, .int .i64 0, .int .i64 0, .string ⟨#[]⟩, .string ⟨#[]⟩, .int .i64 0, .int .i64 0] 28) := ⟨Blk.setCells_other (by omega) _ 2 HR.out⟩; have HI2 : Aside0 (IsS87 w (w4.setCells (g + 1) 2 (Array.toList #[.int .i64 vi, .int .i64 vg, .int .i64 vn, .slice A vl.length c])) g (B s3.1) s3.2) := ⟨Blk.setCells_other (by omega) _ 2 HI.out.1, HI.out.2⟩; have HB2 : Aside0 (Below w.heap.size w (w4.setCells (g + 1) 2 (Array.toList #[.int .i64 vi, .int .i64 vg, .int .i64 vn, .slice A vl.length c]))) := ⟨below_setCells (by omega) _ 2 HB.out⟩; have HO2 : Aside0 (Kd.R k67 67 (w4.setCells (g + 1) 2 (Array.toList #[.int .i64 vi, .int .i64 vg, .int .i64 vn, .slice A vl.length c])) bz (fun k => bz ≤ k) (.slice A vl.length c) vl) := ⟨Kd.R_step HO.out (fun k hk _ => setCells_heap (g + 1) k (by omega) _ _ _)⟩; generalize w4.setCells (g + 1) 2 (Array.toList #[.int .i64 vi, .int .i64 vg, .int .i64 vn, .slice A vl.length c]) = wr at HH2 HR2 HI2 HB2 HO2 ⊢; clear HH HR HI HB HO; have HH := HH2; have HR := HR2; have HI := HI2; have HB := HB2; have HO := HO2; clear HH2 HR2 HI2 HB2 HO2; have c1 := HH.out.cell (i := 1) (v := .int .i64 (d : Int)) rfl; have c2 := HH.out.cell (i := 2) (v := .int .i64 vi) rfl; have c7 := HH.out.cell (i := 7) (v := .int .i64 0) rfl; have u7 := HH.out.free 7))
    clear HEV
    replace HH := Aside0.mk (show Blk (wr.setCell ⟨g + 1, 7, none⟩ (.int .i64 vi)) (g + 1) #[.int .i64 (q : Int), .int .i64 (d : Int), .int .i64 vi, .int .i64 vg, .int .i64 vn, .slice A vl.length c, .string ⟨#[]⟩, .int .i64 vi, .int .i64 0, .int .i64 0, .string ⟨#[]⟩, .string ⟨#[]⟩, .int .i64 0, .int .i64 0] 28 from HH.out.set 7 (.int .i64 vi))
    replace HR := Aside0.mk (HR.out.other (g' := g + 1) (by omega) 7 (.int .i64 vi))
    replace HI := Aside0.mk (HI.out.far (p := ⟨g + 1, 7, none⟩) (by show g ≠ g + 1; omega) (.int .i64 vi))
    replace HB := Aside0.mk (HB.out.setCell (p := ⟨g + 1, 7, none⟩) (by show w.heap.size ≤ g + 1; omega) (.int .i64 vi))
    replace HO := Aside0.mk (Kd.R_far HO.out (p := ⟨g + 1, 7, none⟩) (fun k hk => by show k ≠ g + 1; omega) (.int .i64 vi))
    generalize wr.setCell ⟨g + 1, 7, none⟩ (.int .i64 vi) = wr at *
    refine Calls.mono (sluicegateref05_Reader_Text.calls 20 g _ _ _ _ _ w _ HI.out HB.out HN3.out) ?_
    rintro e w4 ⟨rfl, hI4, hB4, hK4⟩
    replace HI := Aside0.mk hI4
    replace HB := Aside0.mk hB4
    replace HR := Aside0.mk (HR.out.but hK4 (by omega))
    replace HH := Aside0.mk (HH.out.but hK4 (by omega))
    replace HO := Aside0.mk (Kd.R_keep HO.out hK4 (fun k hk => by omega))
    clear hI4 hB4 hK4
    clear HN3
    have hc := HH.out.cell (i := 6) (v := .string ⟨#[]⟩) rfl
    have hf := HH.out.free 6
    go_wp2_with fail
    clear hc hf
    replace HH := Aside0.mk (show Blk (w4.setCell ⟨g + 1, 6, none⟩ (.string (B kt))) (g + 1) #[.int .i64 (q : Int), .int .i64 (d : Int), .int .i64 vi, .int .i64 vg, .int .i64 vn, .slice A vl.length c, .string (B kt), .int .i64 vi, .int .i64 0, .int .i64 0, .string ⟨#[]⟩, .string ⟨#[]⟩, .int .i64 0, .int .i64 0] 28 from HH.out.set 6 (.string (B kt)))
    replace HR := Aside0.mk (HR.out.other (g' := g + 1) (by omega) 6 (.string (B kt)))
    replace HI := Aside0.mk (HI.out.far (p := ⟨g + 1, 6, none⟩) (by show g ≠ g + 1; omega) (.string (B kt)))
    replace HB := Aside0.mk (HB.out.setCell (p := ⟨g + 1, 6, none⟩) (by show w.heap.size ≤ g + 1; omega) (.string (B kt)))
    replace HO := Aside0.mk (Kd.R_far HO.out (p := ⟨g + 1, 6, none⟩) (fun k hk => by show k ≠ g + 1; omega) (.string (B kt)))
    generalize w4.setCell ⟨g + 1, 6, none⟩ (.string (B kt)) = wr at *
    refine Calls.mono (sluicegateref05_Reader_Number.calls 20 g _ _ _ _ _ w _ HI.out HB.out HN4.out) ?_
    rintro e w4 ⟨rfl, hI4, hB4, hK4⟩
    replace HI := Aside0.mk hI4
    replace HB := Aside0.mk hB4
    replace HR := Aside0.mk (HR.out.but hK4 (by omega))
    replace HH := Aside0.mk (HH.out.but hK4 (by omega))
    replace HO := Aside0.mk (Kd.R_keep HO.out hK4 (fun k hk => by omega))
    clear hI4 hB4 hK4
    clear HN4
    have hc := HH.out.cell (i := 8) (v := .int .i64 0) rfl
    have hf := HH.out.free 8
    go_wp2_with fail
    clear hc hf
    replace HH := Aside0.mk (show Blk (w4.setCell ⟨g + 1, 8, none⟩ (.int .i64 (o : Int))) (g + 1) #[.int .i64 (q : Int), .int .i64 (d : Int), .int .i64 vi, .int .i64 vg, .int .i64 vn, .slice A vl.length c, .string (B kt), .int .i64 vi, .int .i64 (o : Int), .int .i64 0, .string ⟨#[]⟩, .string ⟨#[]⟩, .int .i64 0, .int .i64 0] 28 from HH.out.set 8 (.int .i64 (o : Int)))
    replace HR := Aside0.mk (HR.out.other (g' := g + 1) (by omega) 8 (.int .i64 (o : Int)))
    replace HI := Aside0.mk (HI.out.far (p := ⟨g + 1, 8, none⟩) (by show g ≠ g + 1; omega) (.int .i64 (o : Int)))
    replace HB := Aside0.mk (HB.out.setCell (p := ⟨g + 1, 8, none⟩) (by show w.heap.size ≤ g + 1; omega) (.int .i64 (o : Int)))
    replace HO := Aside0.mk (Kd.R_far HO.out (p := ⟨g + 1, 8, none⟩) (fun k hk => by show k ≠ g + 1; omega) (.int .i64 (o : Int)))
    generalize w4.setCell ⟨g + 1, 8, none⟩ (.int .i64 (o : Int)) = wr at *
    refine Calls.mono (sluicegateref05_Reader_Number.calls 20 g _ _ _ _ _ w _ HI.out HB.out HN5.out) ?_
    rintro e w4 ⟨rfl, hI4, hB4, hK4⟩
    replace HI := Aside0.mk hI4
    replace HB := Aside0.mk hB4
    replace HR := Aside0.mk (HR.out.but hK4 (by omega))
    replace HH := Aside0.mk (HH.out.but hK4 (by omega))
    replace HO := Aside0.mk (Kd.R_keep HO.out hK4 (fun k hk => by omega))
    clear hI4 hB4 hK4
    clear HN5
    have hc := HH.out.cell (i := 9) (v := .int .i64 0) rfl
    have hf := HH.out.free 9
    go_wp2_with fail
    clear hc hf
    replace HH := Aside0.mk (show Blk (w4.setCell ⟨g + 1, 9, none⟩ (.int .i64 (ln : Int))) (g + 1) #[.int .i64 (q : Int), .int .i64 (d : Int), .int .i64 vi, .int .i64 vg, .int .i64 vn, .slice A vl.length c, .string (B kt), .int .i64 vi, .int .i64 (o : Int), .int .i64 (ln : Int), .string ⟨#[]⟩, .string ⟨#[]⟩, .int .i64 0, .int .i64 0] 28 from HH.out.set 9 (.int .i64 (ln : Int)))
    replace HR := Aside0.mk (HR.out.other (g' := g + 1) (by omega) 9 (.int .i64 (ln : Int)))
    replace HI := Aside0.mk (HI.out.far (p := ⟨g + 1, 9, none⟩) (by show g ≠ g + 1; omega) (.int .i64 (ln : Int)))
    replace HB := Aside0.mk (HB.out.setCell (p := ⟨g + 1, 9, none⟩) (by show w.heap.size ≤ g + 1; omega) (.int .i64 (ln : Int)))
    replace HO := Aside0.mk (Kd.R_far HO.out (p := ⟨g + 1, 9, none⟩) (fun k hk => by show k ≠ g + 1; omega) (.int .i64 (ln : Int)))
    generalize w4.setCell ⟨g + 1, 9, none⟩ (.int .i64 (ln : Int)) = wr at *
    refine Calls.mono (sluicegateref05_Reader_Rest.calls g _ _ _ _ _ w _ HI.out HB.out HN6.out) ?_
    rintro e w4 ⟨rfl, hI4, hB4, hK4⟩
    replace HI := Aside0.mk hI4
    replace HB := Aside0.mk hB4
    replace HR := Aside0.mk (HR.out.but hK4 (by omega))
    replace HH := Aside0.mk (HH.out.but hK4 (by omega))
    replace HO := Aside0.mk (Kd.R_keep HO.out hK4 (fun k hk => by omega))
    clear hI4 hB4 hK4
    clear HN6
    have hc := HH.out.cell (i := 10) (v := .string ⟨#[]⟩) rfl
    have hf := HH.out.free 10
    have c1 := HH.out.cell (i := 1) (v := .int .i64 (d : Int)) rfl
    have HX : Aside0 (Blk (w4.setCell ⟨g + 1, 10, none⟩ (.string (B dg))) (g + 1) (rv (⟨(q : Int), (d : Int), vi, vg, vn, vl, B kt, vi, (o : Int), (ln : Int), B dg, ⟨#[]⟩, 0, 0⟩ : RecP) A c) 28) := ⟨HH.out.set 10 (.string (B dg))⟩
    replace HR := Aside0.mk (HR.out.other (g' := g + 1) (by omega) 10 (.string (B dg)))
    replace HI := Aside0.mk (HI.out.far (p := ⟨g + 1, 10, none⟩) (by show g ≠ g + 1; omega) (.string (B dg)))
    replace HB := Aside0.mk (HB.out.setCell (p := ⟨g + 1, 10, none⟩) (by show w.heap.size ≤ g + 1; omega) (.string (B dg)))
    replace HO := Aside0.mk (Kd.R_far HO.out (p := ⟨g + 1, 10, none⟩) (fun k hk => by show k ≠ g + 1; omega) (.string (B dg)))
    go_wp2_with (first | (refine gate_ (.load 28 (.tmp 7)) rfl ?_; refine wpList_load_row rfl 28 (.tmp 7) rfl (g + 1) rfl _ (rv (⟨(q : Int), (d : Int), vi, vg, vn, vl, B kt, vi, (o : Int), (ln : Int), B dg, ⟨#[]⟩, 0, 0⟩ : RecP) A c) (0, 0) _ HX.out Try.underlying28 rfl (by kernel_rfl) ?_; simp only [Act.put, List.setIfInBounds_toArray, List.set_cons_zero, List.set_cons_succ]))
    clear hc hf c1
    generalize w4.setCell ⟨g + 1, 10, none⟩ (.string (B dg)) = wr at *
    clear f0 f1 f3
    clear HH
    have HV : Aside0 (RV wr (⟨(q : Int), (d : Int), vi, vg, vn, vl, B kt, vi, (o : Int), (ln : Int), B dg, ⟨#[]⟩, 0, 0⟩ : RecP) A c) := ⟨by have h2 := Kd.R_reads' HO.out; exact ⟨h2.2.2, h2.2.1⟩⟩
    refine (rwrite_rv (⟨(q : Int), (d : Int), vi, vg, vn, vl, B kt, vi, (o : Int), (ln : Int), B dg, ⟨#[]⟩, 0, 0⟩ : RecP) A c _ HV.out HL9.out HL6.out HL11.out).mono ?_
    rintro e w5 ⟨rfl, b1⟩
    replace HI := Aside0.mk (HI.out.below b1)
    replace HR := Aside0.mk (HR.out.keep b1)
    replace HX := Aside0.mk (HX.out.keep b1)
    replace HB := Aside0.mk (below2 HB.out HB.out.size b1)
    replace HO := Aside0.mk (Kd.R_below HO.out b1)
    clear b1 HV
    go_wp2_with fail
    refine Calls.mono (sluicegateref05_Reader_End.calls g _ _ _ _ _ w _ HI.out HB.out (rre_f s7)) ?_
    rintro e w6 ⟨rfl, hI4, hB4, hK4⟩
    replace HR := Aside0.mk (HR.out.but hK4 (by omega))
    replace HX := Aside0.mk (HX.out.but hK4 (by omega))
    replace HB := Aside0.mk hB4
    replace HO := Aside0.mk (Kd.R_keep HO.out hK4 (fun k hk => by omega))
    clear hI4 hB4 hK4 HI
    generalize rend s7 = en at HRES ⊢
    obtain ⟨⟨ws, wz⟩, hw⟩ : ∃ p, recW (⟨(q : Int), (d : Int), vi, vg, vn, vl, B kt, vi, (o : Int), (ln : Int), B dg, ⟨#[]⟩, 0, 0⟩ : RecP) = p := ⟨_, rfl⟩
    rw [hw] at HRES ⊢
    clear hw
    by_cases h1 : en = 0
    · by_cases h2 : wz = 0
      · by_cases h3 : ws = B m
        · subst h1 h2 h3
          replace HRES := Lib.hid (HRES.out.trans (if_pos ⟨rfl, rfl, rfl⟩))
          go_wp2_with (first | (refine gate_ (.load 28 (.tmp 7)) rfl ?_; refine wpList_load_row rfl 28 (.tmp 7) rfl (g + 1) rfl _ (rv (⟨(q : Int), (d : Int), vi, vg, vn, vl, B kt, vi, (o : Int), (ln : Int), B dg, ⟨#[]⟩, 0, 0⟩ : RecP) A c) (0, 0) _ HX.out Try.underlying28 rfl (by kernel_rfl) ?_; simp only [Act.put, List.setIfInBounds_toArray, List.set_cons_zero, List.set_cons_succ]) | (refine gate_ (.store 28 (.tmp 2) (.tmp 94)) rfl ?_; refine wpList_store_row rfl 28 (.tmp 2) (.tmp 94) rfl w.heap.size (rv (⟨(q : Int), (d : Int), vi, vg, vn, vl, B kt, vi, (o : Int), (ln : Int), B dg, ⟨#[]⟩, 0, 0⟩ : RecP) A c) rfl rfl 28 _ HR.out (by kernel_rfl) rfl (rv_one _ _ _) ?_; simp only [Act.put, List.setIfInBounds_toArray, List.set_cons_zero, List.set_cons_succ]))
          refine bodyPost_ret (results_row_tmp rfl _ _ w.heap.size 28 (rv (⟨(q : Int), (d : Int), vi, vg, vn, vl, B kt, vi, (o : Int), (ln : Int), B dg, ⟨#[]⟩, 0, 0⟩ : RecP) A c) (0, 0) _ rfl (setRow_heap _ _ _ _ _ _ HR.out) Try.underlying28 rfl (by kernel_rfl)) rfl ?_
          rw [HRES.out]
          have hO : Kd.R k67 67 (w6.setRow w.heap.size (rv (⟨(q : Int), (d : Int), vi, vg, vn, vl, B kt, vi, (o : Int), (ln : Int), B dg, ⟨#[]⟩, 0, 0⟩ : RecP) A c)) bz (fun k => bz ≤ k) (.slice A vl.length c) vl := Kd.R_step HO.out (fun k hk _ => setRow_other w6 w.heap.size k _ (by omega))
          have h2 := Kd.R_reads' hO
          exact ⟨A, c, rfl, ⟨h2.2.2, h2.2.1⟩, below_setRow' HB.out (Nat.le_refl _) _⟩
        · replace HRES := Lib.hid (HRES.out.trans (if_neg (fun h => h3 h.2.2)))
          have h4 : (ws.toList == (B m).toList) = false := by rw [beq_eq_false_iff_ne]; exact fun h => h3 (eq_of_toList h)
          have h5 : (ws.toList != (B m).toList) = true := by rw [bne, h4]; rfl
          subst h1 h2
          clear h3
          go_wp2_with (first | (refine gate_ (.store 28 (.tmp 2) (.tmp 93)) rfl ?_; refine wpList_store_row rfl 28 (.tmp 2) (.tmp 93) rfl w.heap.size (rv zeroR none 0) rfl rfl 28 _ HR.out (by kernel_rfl) rfl (rv_one _ _ _) ?_; simp only [Act.put, List.setIfInBounds_toArray, List.set_cons_zero, List.set_cons_succ]))
          refine bodyPost_ret (results_row_tmp rfl _ _ w.heap.size 28 (rv zeroR none 0) (0, 0) _ rfl (setRow_heap _ _ _ _ _ _ HR.out) Try.underlying28 rfl (by kernel_rfl)) rfl ?_
          rw [HRES.out]
          exact ⟨none, 0, rfl, ⟨Kd.C_nil _ _, Nat.zero_le _⟩, below_setRow' HB.out (Nat.le_refl _) _⟩
      · replace HRES := Lib.hid (HRES.out.trans (if_neg (fun h => h2 h.2.1)))
        have h4 : (wz != 0) = true := bne_iff_ne.mpr h2
        subst h1
        clear h2
        go_wp2_with (first | (refine gate_ (.store 28 (.tmp 2) (.tmp 93)) rfl ?_; refine wpList_store_row rfl 28 (.tmp 2) (.tmp 93) rfl w.heap.size (rv zeroR none 0) rfl rfl 28 _ HR.out (by kernel_rfl) rfl (rv_one _ _ _) ?_; simp only [Act.put, List.setIfInBounds_toArray, List.set_cons_zero, List.set_cons_succ]))
        refine bodyPost_ret (results_row_tmp rfl _ _ w.heap.size 28 (rv zeroR none 0) (0, 0) _ rfl (setRow_heap _ _ _ _ _ _ HR.out) Try.underlying28 rfl (by kernel_rfl)) rfl ?_
        rw [HRES.out]
        exact ⟨none, 0, rfl, ⟨Kd.C_nil _ _, Nat.zero_le _⟩, below_setRow' HB.out (Nat.le_refl _) _⟩
    · replace HRES := Lib.hid (HRES.out.trans (if_neg (fun h => h1 h.1)))
      have h4 : (en != 0) = true := bne_iff_ne.mpr h1
      clear h1
      go_wp2_with (first | (refine gate_ (.store 28 (.tmp 2) (.tmp 93)) rfl ?_; refine wpList_store_row rfl 28 (.tmp 2) (.tmp 93) rfl w.heap.size (rv zeroR none 0) rfl rfl 28 _ HR.out (by kernel_rfl) rfl (rv_one _ _ _) ?_; simp only [Act.put, List.setIfInBounds_toArray, List.set_cons_zero, List.set_cons_succ]))
      refine bodyPost_ret (results_row_tmp rfl _ _ w.heap.size 28 (rv zeroR none 0) (0, 0) _ rfl (setRow_heap _ _ _ _ _ _ HR.out) Try.underlying28 rfl (by kernel_rfl)) rfl ?_
      rw [HRES.out]
      exact ⟨none, 0, rfl, ⟨Kd.C_nil _ _, Nat.zero_le _⟩, below_setRow' HB.out (Nat.le_refl _) _⟩
  by_cases hd3 : d = 3
  case pos =>
    obtain ⟨⟨fr, s4⟩, e3⟩ : ∃ p, nx s3 = p := ⟨_, rfl⟩
    obtain ⟨⟨tl, s5⟩, e4⟩ : ∃ p, nx s4 = p := ⟨_, rfl⟩
    have hs4 := nx_st hs3 e3
    have HN3 := Lib.hid (rnum_st s3 hs3 e3)
    have HN4 := Lib.hid (rnum_st s4 hs4 e4)
    have hK : refK q d s2 = ((⟨(q : Int), (d : Int), vi, vg, vn, vl, ⟨#[]⟩, 0, 0, 0, ⟨#[]⟩, ⟨#[]⟩, (fr : Int), (tl : Int)⟩ : RecP), s5) := by unfold refK; rw [if_neg hd1, if_neg hd0, if_pos hd3]; unfold refK3; simp only [ev, e3, e4]
    rw [hK] at HRES
    simp only at HRES
    clear hK
    have HL9 : Hid ((⟨(q : Int), (d : Int), vi, vg, vn, vl, ⟨#[]⟩, 0, 0, 0, ⟨#[]⟩, ⟨#[]⟩, (fr : Int), (tl : Int)⟩ : RecP).locs.length ≤ 1000) := Lib.hid (by show vl.length ≤ 1000; rw [h9]; decide)
    have HL6 : Hid ((⟨(q : Int), (d : Int), vi, vg, vn, vl, ⟨#[]⟩, 0, 0, 0, ⟨#[]⟩, ⟨#[]⟩, (fr : Int), (tl : Int)⟩ : RecP).ekey.size ≤ 140737488355328) := Lib.hid (by exact Nat.zero_le _)
    have HL11 : Hid ((⟨(q : Int), (d : Int), vi, vg, vn, vl, ⟨#[]⟩, 0, 0, 0, ⟨#[]⟩, ⟨#[]⟩, (fr : Int), (tl : Int)⟩ : RecP).key.size ≤ 140737488355328) := Lib.hid (by exact Nat.zero_le _)
    have f1 : ((d : Int) == 1) = false := beq_eq_false_iff_ne.mpr (by omega)
    have f0 : ((d : Int) == 0) = false := beq_eq_false_iff_ne.mpr (by omega)
    have f3 : ((d : Int) == 3) = true := beq_iff_eq.mpr (by omega)
    clear e3 e4 ev h9 hs3 hs4 hd0 hd1 hd3
    have hc := HH.out.cell (i := 1) (v := .int .i64 0) rfl
    have hf := HH.out.free 1
    go_wp2_with fail
    clear hc hf
    replace HH := Aside0.mk (show Blk (w4.setCell ⟨g + 1, 1, none⟩ (.int .i64 (d : Int))) (g + 1) #[.int .i64 (q : Int), .int .i64 (d : Int), .int .i64 0, .int .i64 0, .int .i64 0, .slice none 0 0, .string ⟨#[]⟩, .int .i64 0, .int .i64 0, .int .i64 0, .string ⟨#[]⟩, .string ⟨#[]⟩, .int .i64 0, .int .i64 0] 28 from HH.out.set 1 (.int .i64 (d : Int)))
    replace HR := Aside0.mk (HR.out.other (g' := g + 1) (by omega) 1 (.int .i64 (d : Int)))
    replace HI := Aside0.mk (HI.out.far (p := ⟨g + 1, 1, none⟩) (by show g ≠ g + 1; omega) (.int .i64 (d : Int)))
    replace HB := Aside0.mk (HB.out.setCell (p := ⟨g + 1, 1, none⟩) (by show w.heap.size ≤ g + 1; omega) (.int .i64 (d : Int)))
    generalize w4.setCell ⟨g + 1, 1, none⟩ (.int .i64 (d : Int)) = wr at *
    have hgz : g + 1 < wr.heap.size := HH.out.lt
    refine Calls.mono (refvol_st g s2 w _ hs2 HI.out HB.out HEV.out) ?_
    rintro e w4 ⟨A, c, rfl, hO, hI4, hB4, hK4⟩
    have HO := Aside0.mk hO
    clear hO
    generalize wr.heap.size = bz at HO hgz
    replace HI := Aside0.mk hI4
    replace HB := Aside0.mk hB4
    replace HR := Aside0.mk (HR.out.but hK4 (by omega))
    replace HH := Aside0.mk (HH.out.but hK4 (by omega))
    clear hI4 hB4 hK4
    go_wp2_with (first | (refine gate_ (.store 24 (.tmp 42) (.tmp 41)) rfl ?_; refine wpList_store_mid rfl 24 (.tmp 42) (.tmp 41) rfl (g + 1) 2 #[.int .i64 vi, .int .i64 vg, .int .i64 vn, .slice A vl.length c] rfl rfl (HH.out.there 2 4 (show 6 ≤ 14 by decide)) (by kernel_rfl) (by simp [Value.oneCell']) ?_; simp only [Act.put, List.setIfInBounds_toArray, List.set_cons_zero, List.set_cons_succ]; have HH2 : Aside0 (Blk (w4.setCells (g + 1) 2 (Array.toList #[.int .i64 vi, .int .i64 vg, .int .i64 vn, .slice A vl.length c])) (g + 1) #[.int .i64 (q : Int), .int .i64 (d : Int), .int .i64 vi, .int .i64 vg, .int .i64 vn, .slice A vl.length c, .string ⟨#[]⟩, .int .i64 0, .int .i64 0, .int .i64 0, .string ⟨#[]⟩, .string ⟨#[]⟩, .int .i64 0, .int .i64 0] 28) := ⟨HH.out.setCells _ 2⟩; have HR2 : Aside0 (Blk (w4.setCells (g + 1) 2 (Array.toList #[.int .i64 vi, .int .i64 vg, .int .i64 vn, .slice A vl.length c])) w.heap.size #[.int .i64 0, .int .i64 0, .int .i64 0, .int .i64 0, .int .i64 0, .slice none 0 0, .string ⟨#[]⟩, .int .i64 0, .int .i64 0, .int .i64 0, .string ⟨#[]⟩, .string ⟨#[]⟩, .int .i64 0, .int .i64 0] 28) := ⟨Blk.setCells_other (by omega) _ 2 HR.out⟩; have HI2 : Aside0 (IsS87 w (w4.setCells (g + 1) 2 (Array.toList #[.int .i64 vi, .int .i64 vg, .int .i64 vn, .slice A vl.length c])) g (B s3.1) s3.2) := ⟨Blk.setCells_other (by omega) _ 2 HI.out.1, HI.out.2⟩; have HB2 : Aside0 (Below w.heap.size w (w4.setCells (g + 1) 2 (Array.toList #[.int .i64 vi, .int .i64 vg, .int .i64 vn, .slice A vl.length c]))) := ⟨below_setCells (by omega) _ 2 HB.out⟩; have HO2 : Aside0 (Kd.R k67 67 (w4.setCells (g + 1) 2 (Array.toList #[.int .i64 vi, .int .i64 vg, .int .i64 vn, .slice A vl.length c])) bz (fun k => bz ≤ k) (.slice A vl.length c) vl) := ⟨Kd.R_step HO.out (fun k hk _ => setCells_heap (g + 1) k (by omega) _ _ _)⟩; generalize w4.setCells (g + 1) 2 (Array.toList #[.int .i64 vi, .int .i64 vg, .int .i64 vn, .slice A vl.length c]) = wr at HH2 HR2 HI2 HB2 HO2 ⊢; clear HH HR HI HB HO; have HH := HH2; have HR := HR2; have HI := HI2; have HB := HB2; have HO := HO2; clear HH2 HR2 HI2 HB2 HO2; have c1 := HH.out.cell (i := 1) (v := .int .i64 (d : Int)) rfl))
    clear HEV
    refine Calls.mono (sluicegateref05_Reader_Number.calls 20 g _ _ _ _ _ w _ HI.out HB.out HN3.out) ?_
    rintro e w4 ⟨rfl, hI4, hB4, hK4⟩
    replace HI := Aside0.mk hI4
    replace HB := Aside0.mk hB4
    replace HR := Aside0.mk (HR.out.but hK4 (by omega))
    replace HH := Aside0.mk (HH.out.but hK4 (by omega))
    replace HO := Aside0.mk (Kd.R_keep HO.out hK4 (fun k hk => by omega))
    clear hI4 hB4 hK4
    clear HN3
    have hc := HH.out.cell (i := 12) (v := .int .i64 0) rfl
    have hf := HH.out.free 12
    go_wp2_with fail
    clear hc hf
    replace HH := Aside0.mk (show Blk (w4.setCell ⟨g + 1, 12, none⟩ (.int .i64 (fr : Int))) (g + 1) #[.int .i64 (q : Int), .int .i64 (d : Int), .int .i64 vi, .int .i64 vg, .int .i64 vn, .slice A vl.length c, .string ⟨#[]⟩, .int .i64 0, .int .i64 0, .int .i64 0, .string ⟨#[]⟩, .string ⟨#[]⟩, .int .i64 (fr : Int), .int .i64 0] 28 from HH.out.set 12 (.int .i64 (fr : Int)))
    replace HR := Aside0.mk (HR.out.other (g' := g + 1) (by omega) 12 (.int .i64 (fr : Int)))
    replace HI := Aside0.mk (HI.out.far (p := ⟨g + 1, 12, none⟩) (by show g ≠ g + 1; omega) (.int .i64 (fr : Int)))
    replace HB := Aside0.mk (HB.out.setCell (p := ⟨g + 1, 12, none⟩) (by show w.heap.size ≤ g + 1; omega) (.int .i64 (fr : Int)))
    replace HO := Aside0.mk (Kd.R_far HO.out (p := ⟨g + 1, 12, none⟩) (fun k hk => by show k ≠ g + 1; omega) (.int .i64 (fr : Int)))
    generalize w4.setCell ⟨g + 1, 12, none⟩ (.int .i64 (fr : Int)) = wr at *
    refine Calls.mono (sluicegateref05_Reader_Number.calls 20 g _ _ _ _ _ w _ HI.out HB.out HN4.out) ?_
    rintro e w4 ⟨rfl, hI4, hB4, hK4⟩
    replace HI := Aside0.mk hI4
    replace HB := Aside0.mk hB4
    replace HR := Aside0.mk (HR.out.but hK4 (by omega))
    replace HH := Aside0.mk (HH.out.but hK4 (by omega))
    replace HO := Aside0.mk (Kd.R_keep HO.out hK4 (fun k hk => by omega))
    clear hI4 hB4 hK4
    clear HN4
    have hc := HH.out.cell (i := 13) (v := .int .i64 0) rfl
    have hf := HH.out.free 13
    have c1 := HH.out.cell (i := 1) (v := .int .i64 (d : Int)) rfl
    have HX : Aside0 (Blk (w4.setCell ⟨g + 1, 13, none⟩ (.int .i64 (tl : Int))) (g + 1) (rv (⟨(q : Int), (d : Int), vi, vg, vn, vl, ⟨#[]⟩, 0, 0, 0, ⟨#[]⟩, ⟨#[]⟩, (fr : Int), (tl : Int)⟩ : RecP) A c) 28) := ⟨HH.out.set 13 (.int .i64 (tl : Int))⟩
    replace HR := Aside0.mk (HR.out.other (g' := g + 1) (by omega) 13 (.int .i64 (tl : Int)))
    replace HI := Aside0.mk (HI.out.far (p := ⟨g + 1, 13, none⟩) (by show g ≠ g + 1; omega) (.int .i64 (tl : Int)))
    replace HB := Aside0.mk (HB.out.setCell (p := ⟨g + 1, 13, none⟩) (by show w.heap.size ≤ g + 1; omega) (.int .i64 (tl : Int)))
    replace HO := Aside0.mk (Kd.R_far HO.out (p := ⟨g + 1, 13, none⟩) (fun k hk => by show k ≠ g + 1; omega) (.int .i64 (tl : Int)))
    go_wp2_with (first | (refine gate_ (.load 28 (.tmp 7)) rfl ?_; refine wpList_load_row rfl 28 (.tmp 7) rfl (g + 1) rfl _ (rv (⟨(q : Int), (d : Int), vi, vg, vn, vl, ⟨#[]⟩, 0, 0, 0, ⟨#[]⟩, ⟨#[]⟩, (fr : Int), (tl : Int)⟩ : RecP) A c) (0, 0) _ HX.out Try.underlying28 rfl (by kernel_rfl) ?_; simp only [Act.put, List.setIfInBounds_toArray, List.set_cons_zero, List.set_cons_succ]))
    clear hc hf c1
    generalize w4.setCell ⟨g + 1, 13, none⟩ (.int .i64 (tl : Int)) = wr at *
    clear f0 f1 f3
    clear HH
    have HV : Aside0 (RV wr (⟨(q : Int), (d : Int), vi, vg, vn, vl, ⟨#[]⟩, 0, 0, 0, ⟨#[]⟩, ⟨#[]⟩, (fr : Int), (tl : Int)⟩ : RecP) A c) := ⟨by have h2 := Kd.R_reads' HO.out; exact ⟨h2.2.2, h2.2.1⟩⟩
    refine (rwrite_rv (⟨(q : Int), (d : Int), vi, vg, vn, vl, ⟨#[]⟩, 0, 0, 0, ⟨#[]⟩, ⟨#[]⟩, (fr : Int), (tl : Int)⟩ : RecP) A c _ HV.out HL9.out HL6.out HL11.out).mono ?_
    rintro e w5 ⟨rfl, b1⟩
    replace HI := Aside0.mk (HI.out.below b1)
    replace HR := Aside0.mk (HR.out.keep b1)
    replace HX := Aside0.mk (HX.out.keep b1)
    replace HB := Aside0.mk (below2 HB.out HB.out.size b1)
    replace HO := Aside0.mk (Kd.R_below HO.out b1)
    clear b1 HV
    go_wp2_with fail
    refine Calls.mono (sluicegateref05_Reader_End.calls g _ _ _ _ _ w _ HI.out HB.out (rre_f s5)) ?_
    rintro e w6 ⟨rfl, hI4, hB4, hK4⟩
    replace HR := Aside0.mk (HR.out.but hK4 (by omega))
    replace HX := Aside0.mk (HX.out.but hK4 (by omega))
    replace HB := Aside0.mk hB4
    replace HO := Aside0.mk (Kd.R_keep HO.out hK4 (fun k hk => by omega))
    clear hI4 hB4 hK4 HI
    generalize rend s5 = en at HRES ⊢
    obtain ⟨⟨ws, wz⟩, hw⟩ : ∃ p, recW (⟨(q : Int), (d : Int), vi, vg, vn, vl, ⟨#[]⟩, 0, 0, 0, ⟨#[]⟩, ⟨#[]⟩, (fr : Int), (tl : Int)⟩ : RecP) = p := ⟨_, rfl⟩
    rw [hw] at HRES ⊢
    clear hw
    by_cases h1 : en = 0
    · by_cases h2 : wz = 0
      · by_cases h3 : ws = B m
        · subst h1 h2 h3
          replace HRES := Lib.hid (HRES.out.trans (if_pos ⟨rfl, rfl, rfl⟩))
          go_wp2_with (first | (refine gate_ (.load 28 (.tmp 7)) rfl ?_; refine wpList_load_row rfl 28 (.tmp 7) rfl (g + 1) rfl _ (rv (⟨(q : Int), (d : Int), vi, vg, vn, vl, ⟨#[]⟩, 0, 0, 0, ⟨#[]⟩, ⟨#[]⟩, (fr : Int), (tl : Int)⟩ : RecP) A c) (0, 0) _ HX.out Try.underlying28 rfl (by kernel_rfl) ?_; simp only [Act.put, List.setIfInBounds_toArray, List.set_cons_zero, List.set_cons_succ]) | (refine gate_ (.store 28 (.tmp 2) (.tmp 94)) rfl ?_; refine wpList_store_row rfl 28 (.tmp 2) (.tmp 94) rfl w.heap.size (rv (⟨(q : Int), (d : Int), vi, vg, vn, vl, ⟨#[]⟩, 0, 0, 0, ⟨#[]⟩, ⟨#[]⟩, (fr : Int), (tl : Int)⟩ : RecP) A c) rfl rfl 28 _ HR.out (by kernel_rfl) rfl (rv_one _ _ _) ?_; simp only [Act.put, List.setIfInBounds_toArray, List.set_cons_zero, List.set_cons_succ]))
          refine bodyPost_ret (results_row_tmp rfl _ _ w.heap.size 28 (rv (⟨(q : Int), (d : Int), vi, vg, vn, vl, ⟨#[]⟩, 0, 0, 0, ⟨#[]⟩, ⟨#[]⟩, (fr : Int), (tl : Int)⟩ : RecP) A c) (0, 0) _ rfl (setRow_heap _ _ _ _ _ _ HR.out) Try.underlying28 rfl (by kernel_rfl)) rfl ?_
          rw [HRES.out]
          have hO : Kd.R k67 67 (w6.setRow w.heap.size (rv (⟨(q : Int), (d : Int), vi, vg, vn, vl, ⟨#[]⟩, 0, 0, 0, ⟨#[]⟩, ⟨#[]⟩, (fr : Int), (tl : Int)⟩ : RecP) A c)) bz (fun k => bz ≤ k) (.slice A vl.length c) vl := Kd.R_step HO.out (fun k hk _ => setRow_other w6 w.heap.size k _ (by omega))
          have h2 := Kd.R_reads' hO
          exact ⟨A, c, rfl, ⟨h2.2.2, h2.2.1⟩, below_setRow' HB.out (Nat.le_refl _) _⟩
        · replace HRES := Lib.hid (HRES.out.trans (if_neg (fun h => h3 h.2.2)))
          have h4 : (ws.toList == (B m).toList) = false := by rw [beq_eq_false_iff_ne]; exact fun h => h3 (eq_of_toList h)
          have h5 : (ws.toList != (B m).toList) = true := by rw [bne, h4]; rfl
          subst h1 h2
          clear h3
          go_wp2_with (first | (refine gate_ (.store 28 (.tmp 2) (.tmp 93)) rfl ?_; refine wpList_store_row rfl 28 (.tmp 2) (.tmp 93) rfl w.heap.size (rv zeroR none 0) rfl rfl 28 _ HR.out (by kernel_rfl) rfl (rv_one _ _ _) ?_; simp only [Act.put, List.setIfInBounds_toArray, List.set_cons_zero, List.set_cons_succ]))
          refine bodyPost_ret (results_row_tmp rfl _ _ w.heap.size 28 (rv zeroR none 0) (0, 0) _ rfl (setRow_heap _ _ _ _ _ _ HR.out) Try.underlying28 rfl (by kernel_rfl)) rfl ?_
          rw [HRES.out]
          exact ⟨none, 0, rfl, ⟨Kd.C_nil _ _, Nat.zero_le _⟩, below_setRow' HB.out (Nat.le_refl _) _⟩
      · replace HRES := Lib.hid (HRES.out.trans (if_neg (fun h => h2 h.2.1)))
        have h4 : (wz != 0) = true := bne_iff_ne.mpr h2
        subst h1
        clear h2
        go_wp2_with (first | (refine gate_ (.store 28 (.tmp 2) (.tmp 93)) rfl ?_; refine wpList_store_row rfl 28 (.tmp 2) (.tmp 93) rfl w.heap.size (rv zeroR none 0) rfl rfl 28 _ HR.out (by kernel_rfl) rfl (rv_one _ _ _) ?_; simp only [Act.put, List.setIfInBounds_toArray, List.set_cons_zero, List.set_cons_succ]))
        refine bodyPost_ret (results_row_tmp rfl _ _ w.heap.size 28 (rv zeroR none 0) (0, 0) _ rfl (setRow_heap _ _ _ _ _ _ HR.out) Try.underlying28 rfl (by kernel_rfl)) rfl ?_
        rw [HRES.out]
        exact ⟨none, 0, rfl, ⟨Kd.C_nil _ _, Nat.zero_le _⟩, below_setRow' HB.out (Nat.le_refl _) _⟩
    · replace HRES := Lib.hid (HRES.out.trans (if_neg (fun h => h1 h.1)))
      have h4 : (en != 0) = true := bne_iff_ne.mpr h1
      clear h1
      go_wp2_with (first | (refine gate_ (.store 28 (.tmp 2) (.tmp 93)) rfl ?_; refine wpList_store_row rfl 28 (.tmp 2) (.tmp 93) rfl w.heap.size (rv zeroR none 0) rfl rfl 28 _ HR.out (by kernel_rfl) rfl (rv_one _ _ _) ?_; simp only [Act.put, List.setIfInBounds_toArray, List.set_cons_zero, List.set_cons_succ]))
      refine bodyPost_ret (results_row_tmp rfl _ _ w.heap.size 28 (rv zeroR none 0) (0, 0) _ rfl (setRow_heap _ _ _ _ _ _ HR.out) Try.underlying28 rfl (by kernel_rfl)) rfl ?_
      rw [HRES.out]
      exact ⟨none, 0, rfl, ⟨Kd.C_nil _ _, Nat.zero_le _⟩, below_setRow' HB.out (Nat.le_refl _) _⟩
  have hK : refK q d s2 = ((⟨(q : Int), (d : Int), vi, vg, vn, vl, ⟨#[]⟩, 0, 0, 0, ⟨#[]⟩, ⟨#[]⟩, 0, 0⟩ : RecP), s3) := by unfold refK; rw [if_neg hd1, if_neg hd0, if_neg hd3]; unfold refKx; simp only [ev]
  rw [hK] at HRES
  simp only at HRES
  clear hK
  have HL9 : Hid ((⟨(q : Int), (d : Int), vi, vg, vn, vl, ⟨#[]⟩, 0, 0, 0, ⟨#[]⟩, ⟨#[]⟩, 0, 0⟩ : RecP).locs.length ≤ 1000) := Lib.hid (by show vl.length ≤ 1000; rw [h9]; decide)
  have HL6 : Hid ((⟨(q : Int), (d : Int), vi, vg, vn, vl, ⟨#[]⟩, 0, 0, 0, ⟨#[]⟩, ⟨#[]⟩, 0, 0⟩ : RecP).ekey.size ≤ 140737488355328) := Lib.hid (by exact Nat.zero_le _)
  have HL11 : Hid ((⟨(q : Int), (d : Int), vi, vg, vn, vl, ⟨#[]⟩, 0, 0, 0, ⟨#[]⟩, ⟨#[]⟩, 0, 0⟩ : RecP).key.size ≤ 140737488355328) := Lib.hid (by exact Nat.zero_le _)
  have f1 : ((d : Int) == 1) = false := beq_eq_false_iff_ne.mpr (by omega)
  have f0 : ((d : Int) == 0) = false := beq_eq_false_iff_ne.mpr (by omega)
  have f3 : ((d : Int) == 3) = false := beq_eq_false_iff_ne.mpr (by omega)
  clear ev h9 hs3 hd0 hd1 hd3
  have hc := HH.out.cell (i := 1) (v := .int .i64 0) rfl
  have hf := HH.out.free 1
  go_wp2_with fail
  clear hc hf
  replace HH := Aside0.mk (show Blk (w4.setCell ⟨g + 1, 1, none⟩ (.int .i64 (d : Int))) (g + 1) #[.int .i64 (q : Int), .int .i64 (d : Int), .int .i64 0, .int .i64 0, .int .i64 0, .slice none 0 0, .string ⟨#[]⟩, .int .i64 0, .int .i64 0, .int .i64 0, .string ⟨#[]⟩, .string ⟨#[]⟩, .int .i64 0, .int .i64 0] 28 from HH.out.set 1 (.int .i64 (d : Int)))
  replace HR := Aside0.mk (HR.out.other (g' := g + 1) (by omega) 1 (.int .i64 (d : Int)))
  replace HI := Aside0.mk (HI.out.far (p := ⟨g + 1, 1, none⟩) (by show g ≠ g + 1; omega) (.int .i64 (d : Int)))
  replace HB := Aside0.mk (HB.out.setCell (p := ⟨g + 1, 1, none⟩) (by show w.heap.size ≤ g + 1; omega) (.int .i64 (d : Int)))
  generalize w4.setCell ⟨g + 1, 1, none⟩ (.int .i64 (d : Int)) = wr at *
  have hgz : g + 1 < wr.heap.size := HH.out.lt
  refine Calls.mono (refvol_st g s2 w _ hs2 HI.out HB.out HEV.out) ?_
  rintro e w4 ⟨A, c, rfl, hO, hI4, hB4, hK4⟩
  have HO := Aside0.mk hO
  clear hO
  generalize wr.heap.size = bz at HO hgz
  replace HI := Aside0.mk hI4
  replace HB := Aside0.mk hB4
  replace HR := Aside0.mk (HR.out.but hK4 (by omega))
  replace HH := Aside0.mk (HH.out.but hK4 (by omega))
  clear hI4 hB4 hK4
  go_wp2_with (first | (refine gate_ (.store 24 (.tmp 42) (.tmp 41)) rfl ?_; refine wpList_store_mid rfl 24 (.tmp 42) (.tmp 41) rfl (g + 1) 2 #[.int .i64 vi, .int .i64 vg, .int .i64 vn, .slice A vl.length c] rfl rfl (HH.out.there 2 4 (show 6 ≤ 14 by decide)) (by kernel_rfl) (by simp [Value.oneCell']) ?_; simp only [Act.put, List.setIfInBounds_toArray, List.set_cons_zero, List.set_cons_succ]; have HH2 : Aside0 (Blk (w4.setCells (g + 1) 2 (Array.toList #[.int .i64 vi, .int .i64 vg, .int .i64 vn, .slice A vl.length c])) (g + 1) #[.int .i64 (q : Int), .int .i64 (d : Int), .int .i64 vi, .int .i64 vg, .int .i64 vn, .slice A vl.length c, .string ⟨#[]⟩, .int .i64 0, .int .i64 0, .int .i64 0, .string ⟨#[]⟩, .string ⟨#[]⟩, .int .i64 0, .int .i64 0] 28) := ⟨HH.out.setCells _ 2⟩; have HR2 : Aside0 (Blk (w4.setCells (g + 1) 2 (Array.toList #[.int .i64 vi, .int .i64 vg, .int .i64 vn, .slice A vl.length c])) w.heap.size #[.int .i64 0, .int .i64 0, .int .i64 0, .int .i64 0, .int .i64 0, .slice none 0 0, .string ⟨#[]⟩, .int .i64 0, .int .i64 0, .int .i64 0, .string ⟨#[]⟩, .string ⟨#[]⟩, .int .i64 0, .int .i64 0] 28) := ⟨Blk.setCells_other (by omega) _ 2 HR.out⟩; have HI2 : Aside0 (IsS87 w (w4.setCells (g + 1) 2 (Array.toList #[.int .i64 vi, .int .i64 vg, .int .i64 vn, .slice A vl.length c])) g (B s3.1) s3.2) := ⟨Blk.setCells_other (by omega) _ 2 HI.out.1, HI.out.2⟩; have HB2 : Aside0 (Below w.heap.size w (w4.setCells (g + 1) 2 (Array.toList #[.int .i64 vi, .int .i64 vg, .int .i64 vn, .slice A vl.length c]))) := ⟨below_setCells (by omega) _ 2 HB.out⟩; have HO2 : Aside0 (Kd.R k67 67 (w4.setCells (g + 1) 2 (Array.toList #[.int .i64 vi, .int .i64 vg, .int .i64 vn, .slice A vl.length c])) bz (fun k => bz ≤ k) (.slice A vl.length c) vl) := ⟨Kd.R_step HO.out (fun k hk _ => setCells_heap (g + 1) k (by omega) _ _ _)⟩; generalize w4.setCells (g + 1) 2 (Array.toList #[.int .i64 vi, .int .i64 vg, .int .i64 vn, .slice A vl.length c]) = wr at HH2 HR2 HI2 HB2 HO2 ⊢; clear HH HR HI HB HO; have HH := HH2; have HR := HR2; have HI := HI2; have HB := HB2; have HO := HO2; clear HH2 HR2 HI2 HB2 HO2; have c1 := HH.out.cell (i := 1) (v := .int .i64 (d : Int)) rfl; have HX : Aside0 (Blk wr (g + 1) (rv (⟨(q : Int), (d : Int), vi, vg, vn, vl, ⟨#[]⟩, 0, 0, 0, ⟨#[]⟩, ⟨#[]⟩, 0, 0⟩ : RecP) A c) 28) := ⟨HH.out⟩) | (refine gate_ (.load 28 (.tmp 7)) rfl ?_; refine wpList_load_row rfl 28 (.tmp 7) rfl (g + 1) rfl _ (rv (⟨(q : Int), (d : Int), vi, vg, vn, vl, ⟨#[]⟩, 0, 0, 0, ⟨#[]⟩, ⟨#[]⟩, 0, 0⟩ : RecP) A c) (0, 0) _ HX.out Try.underlying28 rfl (by kernel_rfl) ?_; simp only [Act.put, List.setIfInBounds_toArray, List.set_cons_zero, List.set_cons_succ]))
  clear HEV f0 f1 f3
  clear HH
  have HV : Aside0 (RV wr (⟨(q : Int), (d : Int), vi, vg, vn, vl, ⟨#[]⟩, 0, 0, 0, ⟨#[]⟩, ⟨#[]⟩, 0, 0⟩ : RecP) A c) := ⟨by have h2 := Kd.R_reads' HO.out; exact ⟨h2.2.2, h2.2.1⟩⟩
  refine (rwrite_rv (⟨(q : Int), (d : Int), vi, vg, vn, vl, ⟨#[]⟩, 0, 0, 0, ⟨#[]⟩, ⟨#[]⟩, 0, 0⟩ : RecP) A c _ HV.out HL9.out HL6.out HL11.out).mono ?_
  rintro e w5 ⟨rfl, b1⟩
  replace HI := Aside0.mk (HI.out.below b1)
  replace HR := Aside0.mk (HR.out.keep b1)
  replace HX := Aside0.mk (HX.out.keep b1)
  replace HB := Aside0.mk (below2 HB.out HB.out.size b1)
  replace HO := Aside0.mk (Kd.R_below HO.out b1)
  clear b1 HV
  go_wp2_with fail
  refine Calls.mono (sluicegateref05_Reader_End.calls g _ _ _ _ _ w _ HI.out HB.out (rre_f s3)) ?_
  rintro e w6 ⟨rfl, hI4, hB4, hK4⟩
  replace HR := Aside0.mk (HR.out.but hK4 (by omega))
  replace HX := Aside0.mk (HX.out.but hK4 (by omega))
  replace HB := Aside0.mk hB4
  replace HO := Aside0.mk (Kd.R_keep HO.out hK4 (fun k hk => by omega))
  clear hI4 hB4 hK4 HI
  generalize rend s3 = en at HRES ⊢
  obtain ⟨⟨ws, wz⟩, hw⟩ : ∃ p, recW (⟨(q : Int), (d : Int), vi, vg, vn, vl, ⟨#[]⟩, 0, 0, 0, ⟨#[]⟩, ⟨#[]⟩, 0, 0⟩ : RecP) = p := ⟨_, rfl⟩
  rw [hw] at HRES ⊢
  clear hw
  by_cases h1 : en = 0
  · by_cases h2 : wz = 0
    · by_cases h3 : ws = B m
      · subst h1 h2 h3
        replace HRES := Lib.hid (HRES.out.trans (if_pos ⟨rfl, rfl, rfl⟩))
        go_wp2_with (first | (refine gate_ (.load 28 (.tmp 7)) rfl ?_; refine wpList_load_row rfl 28 (.tmp 7) rfl (g + 1) rfl _ (rv (⟨(q : Int), (d : Int), vi, vg, vn, vl, ⟨#[]⟩, 0, 0, 0, ⟨#[]⟩, ⟨#[]⟩, 0, 0⟩ : RecP) A c) (0, 0) _ HX.out Try.underlying28 rfl (by kernel_rfl) ?_; simp only [Act.put, List.setIfInBounds_toArray, List.set_cons_zero, List.set_cons_succ]) | (refine gate_ (.store 28 (.tmp 2) (.tmp 94)) rfl ?_; refine wpList_store_row rfl 28 (.tmp 2) (.tmp 94) rfl w.heap.size (rv (⟨(q : Int), (d : Int), vi, vg, vn, vl, ⟨#[]⟩, 0, 0, 0, ⟨#[]⟩, ⟨#[]⟩, 0, 0⟩ : RecP) A c) rfl rfl 28 _ HR.out (by kernel_rfl) rfl (rv_one _ _ _) ?_; simp only [Act.put, List.setIfInBounds_toArray, List.set_cons_zero, List.set_cons_succ]))
        refine bodyPost_ret (results_row_tmp rfl _ _ w.heap.size 28 (rv (⟨(q : Int), (d : Int), vi, vg, vn, vl, ⟨#[]⟩, 0, 0, 0, ⟨#[]⟩, ⟨#[]⟩, 0, 0⟩ : RecP) A c) (0, 0) _ rfl (setRow_heap _ _ _ _ _ _ HR.out) Try.underlying28 rfl (by kernel_rfl)) rfl ?_
        rw [HRES.out]
        have hO : Kd.R k67 67 (w6.setRow w.heap.size (rv (⟨(q : Int), (d : Int), vi, vg, vn, vl, ⟨#[]⟩, 0, 0, 0, ⟨#[]⟩, ⟨#[]⟩, 0, 0⟩ : RecP) A c)) bz (fun k => bz ≤ k) (.slice A vl.length c) vl := Kd.R_step HO.out (fun k hk _ => setRow_other w6 w.heap.size k _ (by omega))
        have h2 := Kd.R_reads' hO
        exact ⟨A, c, rfl, ⟨h2.2.2, h2.2.1⟩, below_setRow' HB.out (Nat.le_refl _) _⟩
      · replace HRES := Lib.hid (HRES.out.trans (if_neg (fun h => h3 h.2.2)))
        have h4 : (ws.toList == (B m).toList) = false := by rw [beq_eq_false_iff_ne]; exact fun h => h3 (eq_of_toList h)
        have h5 : (ws.toList != (B m).toList) = true := by rw [bne, h4]; rfl
        subst h1 h2
        clear h3
        go_wp2_with (first | (refine gate_ (.store 28 (.tmp 2) (.tmp 93)) rfl ?_; refine wpList_store_row rfl 28 (.tmp 2) (.tmp 93) rfl w.heap.size (rv zeroR none 0) rfl rfl 28 _ HR.out (by kernel_rfl) rfl (rv_one _ _ _) ?_; simp only [Act.put, List.setIfInBounds_toArray, List.set_cons_zero, List.set_cons_succ]))
        refine bodyPost_ret (results_row_tmp rfl _ _ w.heap.size 28 (rv zeroR none 0) (0, 0) _ rfl (setRow_heap _ _ _ _ _ _ HR.out) Try.underlying28 rfl (by kernel_rfl)) rfl ?_
        rw [HRES.out]
        exact ⟨none, 0, rfl, ⟨Kd.C_nil _ _, Nat.zero_le _⟩, below_setRow' HB.out (Nat.le_refl _) _⟩
    · replace HRES := Lib.hid (HRES.out.trans (if_neg (fun h => h2 h.2.1)))
      have h4 : (wz != 0) = true := bne_iff_ne.mpr h2
      subst h1
      clear h2
      go_wp2_with (first | (refine gate_ (.store 28 (.tmp 2) (.tmp 93)) rfl ?_; refine wpList_store_row rfl 28 (.tmp 2) (.tmp 93) rfl w.heap.size (rv zeroR none 0) rfl rfl 28 _ HR.out (by kernel_rfl) rfl (rv_one _ _ _) ?_; simp only [Act.put, List.setIfInBounds_toArray, List.set_cons_zero, List.set_cons_succ]))
      refine bodyPost_ret (results_row_tmp rfl _ _ w.heap.size 28 (rv zeroR none 0) (0, 0) _ rfl (setRow_heap _ _ _ _ _ _ HR.out) Try.underlying28 rfl (by kernel_rfl)) rfl ?_
      rw [HRES.out]
      exact ⟨none, 0, rfl, ⟨Kd.C_nil _ _, Nat.zero_le _⟩, below_setRow' HB.out (Nat.le_refl _) _⟩
  · replace HRES := Lib.hid (HRES.out.trans (if_neg (fun h => h1 h.1)))
    have h4 : (en != 0) = true := bne_iff_ne.mpr h1
    clear h1
    go_wp2_with (first | (refine gate_ (.store 28 (.tmp 2) (.tmp 93)) rfl ?_; refine wpList_store_row rfl 28 (.tmp 2) (.tmp 93) rfl w.heap.size (rv zeroR none 0) rfl rfl 28 _ HR.out (by kernel_rfl) rfl (rv_one _ _ _) ?_; simp only [Act.put, List.setIfInBounds_toArray, List.set_cons_zero, List.set_cons_succ]))
    refine bodyPost_ret (results_row_tmp rfl _ _ w.heap.size 28 (rv zeroR none 0) (0, 0) _ rfl (setRow_heap _ _ _ _ _ _ HR.out) Try.underlying28 rfl (by kernel_rfl)) rfl ?_
    rw [HRES.out]
    exact ⟨none, 0, rfl, ⟨Kd.C_nil _ _, Nat.zero_le _⟩, below_setRow' HB.out (Nat.le_refl _) _⟩
end Go.Proofs.Ytkceobahefjlnaa
end
section
/- RecordReads: its walk. -/
namespace Go.Proofs.Ytkceobahefjlnaa
open Go.RowKit Q Go.Proofs.YtkceobahefjlnaaW.PrintWords Go.Proofs.YtkceobahefjlnaaW.PrintLast Go.Proofs.YtkceobahefjlnaaW.PrintMore
theorem rread_fun (m : List UInt8) (hm : m.length ≤ 1000) : ∃ (X : RecP) (z : Int), X.locs.length ≤ 1000 ∧ (∀ w : World, Calls Try.prog 19 #[.string (B m)] w fun e w' => ∃ (A : Option Addr) (c : Nat), e = .returned (.tuple #[.agg (rv X A c), .int .i64 z]) ∧ RV w' X A c ∧ Below w.heap.size w w') ∧ (∀ w : World, Calls Try.prog 20 #[.string (B m)] w fun e w' => ∃ (A : Option Addr) (c : Nat), e = .returned (.tuple #[.agg (rv X A c), .int .i64 z]) ∧ RV w' X A c ∧ Below w.heap.size w w') :=
  ⟨(recR m).1, (recR m).2, by have := recR_locs m; omega, fun w => read_rv m (by omega) w, fun w => rread_rv m (by omega) w⟩
set_option maxRecDepth 100000 in
set_option maxHeartbeats 2000000 in
theorem reads11 (m : List UInt8) (w : World) : Calls Try.prog 4 #[.string (B m)] w fun e w' => e = .returned (.bool true) ∧ Below w.heap.size w w' := by
  have HB : Aside0 (Below w.heap.size w w) := ⟨Below.refl _ _⟩
  by_cases hm : (B m).size ≤ 400
  case neg =>
    have hm2 : ((B m).size : Int) > 400 := by omega
    clear hm
    go_enter Try.func4, Try.ntmps4
    go_wp2_with fail
    refine (live11_calls _).mono ?_
    rintro e wl ⟨rfl, bl⟩
    go_wp2_with fail
    go_ret
    exact ⟨rfl, below2 HB.out HB.out.size bl⟩
  have hm2 : ¬ ((B m).size : Int) > 400 := by omega
  have hml : m.length ≤ 400 := by rw [B_size] at hm; exact hm
  have hsl : (sealL m).length ≤ 1000 := by rw [sealL_len]; omega
  have HM := Lib.hid hml
  obtain ⟨X, x, hX9, RX, QX⟩ := rread_fun m (by omega)
  obtain ⟨Y, y, hY9, RY, QY⟩ := rread_fun (sealL m) hsl
  have HX9 := Lib.hid hX9
  have HY9 := Lib.hid hY9
  have DX := Aside0.mk RX
  have EX := Aside0.mk QX
  have DY := Aside0.mk RY
  have EY := Aside0.mk QY
  clear hml hsl hm hX9 hY9 RX QX RY QY
  go_enter Try.func4, Try.ntmps4
  go_wp2_with fail
  refine (rseal_L m _ (Nat.le_trans HM.out (by decide))).mono ?_
  rintro e w1 ⟨rfl, b1⟩
  replace HB := Aside0.mk (below2 HB.out HB.out.size b1)
  clear b1
  go_wp2_with fail
  refine (DX.out _).mono ?_
  rintro e w4 ⟨A1, c1, rfl, hA, b1⟩
  replace HB := Aside0.mk (below2 HB.out HB.out.size b1)
  have HV1 := Aside0.mk hA
  clear b1 hA
  go_wp2_with (first | (refine gate_ (.store 34 (.tmp 4) (.tmp 21)) rfl ?_; refine wpList_store_row rfl 34 (.tmp 4) (.tmp 21) rfl w4.heap.size (rv X A1 c1) rfl rfl 34 _ (Blk.new _ _ _) (by kernel_rfl) rfl (rv_one _ _ _) ?_; simp only [Act.put, List.setIfInBounds_toArray, List.set_cons_zero, List.set_cons_succ]; have hp := put_new w4 #[.int .i64 0, .int .i64 0, .int .i64 0, .int .i64 0, .int .i64 0, .slice none 0 0, .string ⟨#[]⟩, .int .i64 0, .int .i64 0, .int .i64 0, .string ⟨#[]⟩, .string ⟨#[]⟩, .int .i64 0, .int .i64 0] (rv X A1 c1) 34; generalize (w4.alloc (.cells #[.int .i64 0, .int .i64 0, .int .i64 0, .int .i64 0, .int .i64 0, .slice none 0 0, .string ⟨#[]⟩, .int .i64 0, .int .i64 0, .int .i64 0, .string ⟨#[]⟩, .string ⟨#[]⟩, .int .i64 0, .int .i64 0] 34)).setRow w4.heap.size (rv X A1 c1) = wx1 at hp ⊢; replace HB := Aside0.mk (below2 HB.out HB.out.size hp.2); replace HV1 := Aside0.mk (HV1.out.below hp.2); have HR1 := Aside0.mk hp.1; clear hp; generalize w4.heap.size = g1 at HR1 ⊢))
  refine (EX.out _).mono ?_
  rintro e w4 ⟨A2, c2, rfl, hA, b1⟩
  replace HB := Aside0.mk (below2 HB.out HB.out.size b1)
  replace HR1 := Aside0.mk (HR1.out.keep b1)
  replace HV1 := Aside0.mk (HV1.out.below b1)
  have HV2 := Aside0.mk hA
  clear b1 hA
  go_wp2_with (first | (refine gate_ (.store 28 (.tmp 6) (.tmp 26)) rfl ?_; refine wpList_store_row rfl 28 (.tmp 6) (.tmp 26) rfl w4.heap.size (rv X A2 c2) rfl rfl 28 _ (Blk.new _ _ _) (by kernel_rfl) rfl (rv_one _ _ _) ?_; simp only [Act.put, List.setIfInBounds_toArray, List.set_cons_zero, List.set_cons_succ]; have hp := put_new w4 #[.int .i64 0, .int .i64 0, .int .i64 0, .int .i64 0, .int .i64 0, .slice none 0 0, .string ⟨#[]⟩, .int .i64 0, .int .i64 0, .int .i64 0, .string ⟨#[]⟩, .string ⟨#[]⟩, .int .i64 0, .int .i64 0] (rv X A2 c2) 28; generalize (w4.alloc (.cells #[.int .i64 0, .int .i64 0, .int .i64 0, .int .i64 0, .int .i64 0, .slice none 0 0, .string ⟨#[]⟩, .int .i64 0, .int .i64 0, .int .i64 0, .string ⟨#[]⟩, .string ⟨#[]⟩, .int .i64 0, .int .i64 0] 28)).setRow w4.heap.size (rv X A2 c2) = wx2 at hp ⊢; replace HB := Aside0.mk (below2 HB.out HB.out.size hp.2); replace HR1 := Aside0.mk (HR1.out.keep hp.2); replace HV1 := Aside0.mk (HV1.out.below hp.2); replace HV2 := Aside0.mk (HV2.out.below hp.2); have HR2 := Aside0.mk hp.1; clear hp; generalize w4.heap.size = g2 at HR2 ⊢))
  refine (DY.out _).mono ?_
  rintro e w4 ⟨A3, c3, rfl, hA, b1⟩
  replace HB := Aside0.mk (below2 HB.out HB.out.size b1)
  replace HR1 := Aside0.mk (HR1.out.keep b1)
  replace HV1 := Aside0.mk (HV1.out.below b1)
  replace HR2 := Aside0.mk (HR2.out.keep b1)
  replace HV2 := Aside0.mk (HV2.out.below b1)
  have HV3 := Aside0.mk hA
  clear b1 hA
  go_wp2_with (first | (refine gate_ (.store 34 (.tmp 8) (.tmp 31)) rfl ?_; refine wpList_store_row rfl 34 (.tmp 8) (.tmp 31) rfl w4.heap.size (rv Y A3 c3) rfl rfl 34 _ (Blk.new _ _ _) (by kernel_rfl) rfl (rv_one _ _ _) ?_; simp only [Act.put, List.setIfInBounds_toArray, List.set_cons_zero, List.set_cons_succ]; have hp := put_new w4 #[.int .i64 0, .int .i64 0, .int .i64 0, .int .i64 0, .int .i64 0, .slice none 0 0, .string ⟨#[]⟩, .int .i64 0, .int .i64 0, .int .i64 0, .string ⟨#[]⟩, .string ⟨#[]⟩, .int .i64 0, .int .i64 0] (rv Y A3 c3) 34; generalize (w4.alloc (.cells #[.int .i64 0, .int .i64 0, .int .i64 0, .int .i64 0, .int .i64 0, .slice none 0 0, .string ⟨#[]⟩, .int .i64 0, .int .i64 0, .int .i64 0, .string ⟨#[]⟩, .string ⟨#[]⟩, .int .i64 0, .int .i64 0] 34)).setRow w4.heap.size (rv Y A3 c3) = wx3 at hp ⊢; replace HB := Aside0.mk (below2 HB.out HB.out.size hp.2); replace HR1 := Aside0.mk (HR1.out.keep hp.2); replace HV1 := Aside0.mk (HV1.out.below hp.2); replace HR2 := Aside0.mk (HR2.out.keep hp.2); replace HV2 := Aside0.mk (HV2.out.below hp.2); replace HV3 := Aside0.mk (HV3.out.below hp.2); have HR3 := Aside0.mk hp.1; clear hp; generalize w4.heap.size = g3 at HR3 ⊢))
  refine (EY.out _).mono ?_
  rintro e w4 ⟨A4, c4, rfl, hA, b1⟩
  replace HB := Aside0.mk (below2 HB.out HB.out.size b1)
  replace HR1 := Aside0.mk (HR1.out.keep b1)
  replace HV1 := Aside0.mk (HV1.out.below b1)
  replace HR2 := Aside0.mk (HR2.out.keep b1)
  replace HV2 := Aside0.mk (HV2.out.below b1)
  replace HR3 := Aside0.mk (HR3.out.keep b1)
  replace HV3 := Aside0.mk (HV3.out.below b1)
  have HV4 := Aside0.mk hA
  clear b1 hA
  go_wp2_with (first | (refine gate_ (.store 28 (.tmp 10) (.tmp 36)) rfl ?_; refine wpList_store_row rfl 28 (.tmp 10) (.tmp 36) rfl w4.heap.size (rv Y A4 c4) rfl rfl 28 _ (Blk.new _ _ _) (by kernel_rfl) rfl (rv_one _ _ _) ?_; simp only [Act.put, List.setIfInBounds_toArray, List.set_cons_zero, List.set_cons_succ]; have hp := put_new w4 #[.int .i64 0, .int .i64 0, .int .i64 0, .int .i64 0, .int .i64 0, .slice none 0 0, .string ⟨#[]⟩, .int .i64 0, .int .i64 0, .int .i64 0, .string ⟨#[]⟩, .string ⟨#[]⟩, .int .i64 0, .int .i64 0] (rv Y A4 c4) 28; generalize (w4.alloc (.cells #[.int .i64 0, .int .i64 0, .int .i64 0, .int .i64 0, .int .i64 0, .slice none 0 0, .string ⟨#[]⟩, .int .i64 0, .int .i64 0, .int .i64 0, .string ⟨#[]⟩, .string ⟨#[]⟩, .int .i64 0, .int .i64 0] 28)).setRow w4.heap.size (rv Y A4 c4) = wx4 at hp ⊢; replace HB := Aside0.mk (below2 HB.out HB.out.size hp.2); replace HR1 := Aside0.mk (HR1.out.keep hp.2); replace HV1 := Aside0.mk (HV1.out.below hp.2); replace HR2 := Aside0.mk (HR2.out.keep hp.2); replace HV2 := Aside0.mk (HV2.out.below hp.2); replace HR3 := Aside0.mk (HR3.out.keep hp.2); replace HV3 := Aside0.mk (HV3.out.below hp.2); replace HV4 := Aside0.mk (HV4.out.below hp.2); have HR4 := Aside0.mk hp.1; clear hp; generalize w4.heap.size = g4 at HR4 ⊢))
  have HSX : Aside0 (∀ w', Below wx4.heap.size wx4 w' → Calls Try.prog 21 #[.agg (rv X A1 c1), .agg (rv X A2 c2)] w' fun e w'' => e = .returned (.bool true) ∧ Below w'.heap.size w' w'') := ⟨fun w' hw' => by have h := rsame_rv X X A1 A2 c1 c2 w' (HV1.out.below hw') (HV2.out.below hw') HX9.out; rwa [decide_eq_true rfl] at h⟩
  have HSY : Aside0 (∀ w', Below wx4.heap.size wx4 w' → Calls Try.prog 21 #[.agg (rv Y A3 c3), .agg (rv Y A4 c4)] w' fun e w'' => e = .returned (.bool true) ∧ Below w'.heap.size w' w'') := ⟨fun w' hw' => by have h := rsame_rv Y Y A3 A4 c3 c4 w' (HV3.out.below hw') (HV4.out.below hw') HY9.out; rwa [decide_eq_true rfl] at h⟩
  have hxx : (x == x) = true := by simp
  have hyy : (y == y) = true := by simp
  go_wp2_with fail
  refine region_below_tail 23 (by kernel_rfl) (by kernel_rfl) ?_
  simp only [List.take_succ_cons, List.take_zero, List.drop_succ_cons, List.drop_zero]
  repeat (first | go_big_quiet_step (fail) | (refine BigFrame.wpQuiet_want (by rfl) (fun K hK => ?_); go_big_quiet_op; refine ⟨_, fun _ _ => rfl, hK _ ?_⟩; clear hK K) | (refine q_rdw 34 _ _ ⟨g1, 0, none⟩ (.agg (rv X A1 c1)) rfl rfl (by rfl) rfl (fun w' hw' => ld_rvP (HR1.out.keep hw')) ?_; simp only [Act.put, List.setIfInBounds_toArray, List.set_cons_zero, List.set_cons_succ]) | (refine q_rdw 28 _ _ ⟨g2, 0, none⟩ (.agg (rv X A2 c2)) rfl rfl (by rfl) rfl (fun w' hw' => ld_rvR (HR2.out.keep hw')) ?_; simp only [Act.put, List.setIfInBounds_toArray, List.set_cons_zero, List.set_cons_succ]) | (refine q_rdw 34 _ _ ⟨g3, 0, none⟩ (.agg (rv Y A3 c3)) rfl rfl (by rfl) rfl (fun w' hw' => ld_rvP (HR3.out.keep hw')) ?_; simp only [Act.put, List.setIfInBounds_toArray, List.set_cons_zero, List.set_cons_succ]) | (refine q_rdw 28 _ _ ⟨g4, 0, none⟩ (.agg (rv Y A4 c4)) rfl rfl (by rfl) rfl (fun w' hw' => ld_rvR (HR4.out.keep hw')) ?_; simp only [Act.put, List.setIfInBounds_toArray, List.set_cons_zero, List.set_cons_succ]) | (refine q_gow (f := 22) Try.func22 (by kernel_rfl) rfl #[.agg (rv X A1 c1)] (.agg (rv X A1 c1)) _ rfl rfl (by rfl) (by simp only [List.map_toArray, List.map_cons, List.map_nil]; rfl) (fun w' hw' => told_rv X A1 c1 w') ?_; simp only [Act.put, List.setIfInBounds_toArray, List.set_cons_zero, List.set_cons_succ]) | (refine q_gow (f := 22) Try.func22 (by kernel_rfl) rfl #[.agg (rv Y A3 c3)] (.agg (rv Y A3 c3)) _ rfl rfl (by rfl) (by simp only [List.map_toArray, List.map_cons, List.map_nil]; rfl) (fun w' hw' => told_rv Y A3 c3 w') ?_; simp only [Act.put, List.setIfInBounds_toArray, List.set_cons_zero, List.set_cons_succ]) | (refine q_gow (f := 21) Try.func21 (by kernel_rfl) rfl #[.agg (rv X A1 c1), .agg (rv X A2 c2)] (.bool true) _ rfl rfl (by rfl) (by simp only [List.map_toArray, List.map_cons, List.map_nil]; rfl) (fun w' hw' => HSX.out w' hw') ?_; simp only [Act.put, List.setIfInBounds_toArray, List.set_cons_zero, List.set_cons_succ]) | (refine q_gow (f := 21) Try.func21 (by kernel_rfl) rfl #[.agg (rv Y A3 c3), .agg (rv Y A4 c4)] (.bool true) _ rfl rfl (by rfl) (by simp only [List.map_toArray, List.map_cons, List.map_nil]; rfl) (fun w' hw' => HSY.out w' hw') ?_; simp only [Act.put, List.setIfInBounds_toArray, List.set_cons_zero, List.set_cons_succ]) | (refine q_gow (f := 10) Try.func10 (by kernel_rfl) rfl #[] (.bool true) _ rfl rfl (by rfl) (by simp) (fun w' hw' => live11_calls w') ?_; simp only [Act.put, List.setIfInBounds_toArray, List.set_cons_zero, List.set_cons_succ]))
  refine wpQuiet_nil ?_
  intro wm hw'
  go_wp2_with fail
  go_ret
  exact ⟨rfl, below2 HB.out HB.out.size hw'⟩
theorem recordReads_walk (a0 : ByteArray) (w : World) {P0 : Prop} (_ : P0) : Calls Try.prog 4 #[.string a0] w fun e w' => e = .returned (.bool true) ∧ Below w.heap.size w w' := by
  obtain ⟨m, rfl⟩ := exB a0
  exact reads11 m w
end Go.Proofs.Ytkceobahefjlnaa
end
