/- Powers of 2 among the numbers of a byte (chapter 01): which power each number is, products by adding; as plain lists of numbers. -/
namespace Go.Proofs.Yteccjhiafnnnlaa
/-- The powers, the number of each. -/
def powL : List Nat := [1, 2, 4, 8, 16, 32, 64, 128, 29, 58, 116, 232, 205, 135, 19, 38, 76, 152, 45, 90, 180, 117, 234, 201, 143, 3, 6, 12, 24, 48, 96, 192, 157, 39, 78, 156, 37, 74, 148, 53, 106, 212, 181, 119, 238, 193, 159, 35, 70, 140, 5, 10, 20, 40, 80, 160, 93, 186, 105, 210, 185, 111, 222, 161, 95, 190, 97, 194, 153, 47, 94, 188, 101, 202, 137, 15, 30, 60, 120, 240, 253, 231, 211, 187, 107, 214, 177, 127, 254, 225, 223, 163, 91, 182, 113, 226, 217, 175, 67, 134, 17, 34, 68, 136, 13, 26, 52, 104, 208, 189, 103, 206, 129, 31, 62, 124, 248, 237, 199, 147, 59, 118, 236, 197, 151, 51, 102, 204, 133, 23, 46, 92, 184, 109, 218, 169, 79, 158, 33, 66, 132, 21, 42, 84, 168, 77, 154, 41, 82, 164, 85, 170, 73, 146, 57, 114, 228, 213, 183, 115, 230, 209, 191, 99, 198, 145, 63, 126, 252, 229, 215, 179, 123, 246, 241, 255, 227, 219, 171, 75, 150, 49, 98, 196, 149, 55, 110, 220, 165, 87, 174, 65, 130, 25, 50, 100, 200, 141, 7, 14, 28, 56, 112, 224, 221, 167, 83, 166, 81, 162, 89, 178, 121, 242, 249, 239, 195, 155, 43, 86, 172, 69, 138, 9, 18, 36, 72, 144, 61, 122, 244, 245, 247, 243, 251, 235, 203, 139, 11, 22, 44, 88, 176, 125, 250, 233, 207, 131, 27, 54, 108, 216, 173, 71, 142]
def whL : List Nat := [0, 0, 1, 25, 2, 50, 26, 198, 3, 223, 51, 238, 27, 104, 199, 75, 4, 100, 224, 14, 52, 141, 239, 129, 28, 193, 105, 248, 200, 8, 76, 113, 5, 138, 101, 47, 225, 36, 15, 33, 53, 147, 142, 218, 240, 18, 130, 69, 29, 181, 194, 125, 106, 39, 249, 185, 201, 154, 9, 120, 77, 228, 114, 166, 6, 191, 139, 98, 102, 221, 48, 253, 226, 152, 37, 179, 16, 145, 34, 136, 54, 208, 148, 206, 143, 150, 219, 189, 241, 210, 19, 92, 131, 56, 70, 64, 30, 66, 182, 163, 195, 72, 126, 110, 107, 58, 40, 84, 250, 133, 186, 61, 202, 94, 155, 159, 10, 21, 121, 43, 78, 212, 229, 172, 115, 243, 167, 87, 7, 112, 192, 247, 140, 128, 99, 13, 103, 74, 222, 237, 49, 197, 254, 24, 227, 165, 153, 119, 38, 184, 180, 124, 17, 68, 146, 217, 35, 32, 137, 46, 55, 63, 209, 91, 149, 188, 207, 205, 144, 135, 151, 178, 220, 252, 190, 97, 242, 86, 211, 171, 20, 42, 93, 158, 132, 60, 57, 83, 71, 109, 65, 162, 31, 45, 67, 216, 183, 123, 164, 118, 196, 23, 73, 236, 127, 12, 111, 246, 108, 161, 59, 82, 41, 157, 85, 170, 251, 96, 134, 177, 187, 204, 62, 90, 203, 89, 95, 176, 156, 169, 160, 81, 11, 245, 22, 235, 122, 117, 44, 215, 79, 174, 213, 233, 230, 231, 173, 232, 116, 214, 244, 234, 168, 80, 88, 175]
def pw (n : Nat) : Nat := powL.getD n 0
def wh (a : Nat) : Nat := whL.getD a 0
/-- The next power. -/
def dbl (x : Nat) : Nat := if 255 < 2 * x then (2 * x) ^^^ 285 else 2 * x
def pwN : Nat → Nat
  | 0 => 1
  | n + 1 => dbl (pwN n)
theorem dbl_le : ∀ x : Fin 256, dbl x.val ≤ 255 := by decide +kernel
theorem pwN_le (n : Nat) : pwN n ≤ 255 := by
  induction n with
  | zero => decide
  | succ n ih => exact dbl_le ⟨pwN n, by omega⟩
theorem pwN_eq : ∀ n : Fin 255, pwN n.val = pw n.val := by decide +kernel
theorem pw_range : ∀ n : Fin 255, 1 ≤ pw n.val ∧ pw n.val ≤ 255 ∧ wh (pw n.val) = n.val := by decide +kernel
theorem wh_range : ∀ a : Fin 256, 1 ≤ a.val → wh a.val < 255 ∧ pw (wh a.val) = a.val := by decide +kernel
theorem wh_zero : wh 0 = 0 := by decide
theorem pw_pos {n : Nat} (h : n < 255) : 1 ≤ pw n := (pw_range ⟨n, h⟩).1
theorem pw_le {n : Nat} (h : n < 255) : pw n ≤ 255 := (pw_range ⟨n, h⟩).2.1
theorem wh_pw {n : Nat} (h : n < 255) : wh (pw n) = n := (pw_range ⟨n, h⟩).2.2
theorem wh_lt {a : Nat} (h0 : 1 ≤ a) (h : a ≤ 255) : wh a < 255 := (wh_range ⟨a, by omega⟩ h0).1
theorem pw_wh {a : Nat} (h0 : 1 ≤ a) (h : a ≤ 255) : pw (wh a) = a := (wh_range ⟨a, by omega⟩ h0).2
theorem wh_le (a : Nat) (h : a ≤ 255) : wh a < 255 := by
  by_cases h0 : a = 0
  · subst h0; decide
  · exact wh_lt (by omega) h
theorem pw_inj {n m : Nat} (hn : n < 255) (hm : m < 255) (h : pw n = pw m) : n = m := by rw [← wh_pw hn, h, wh_pw hm]
/-- Products, quotients, by powers. -/
def tim (a b : Nat) : Nat := if a = 0 ∨ b = 0 then 0 else pw ((wh a + wh b) % 255)
def ovr (a b : Nat) : Nat := if a = 0 then 0 else pw ((wh a + 255 - wh b) % 255)
theorem tim_le (a b : Nat) : tim a b ≤ 255 := by
  unfold tim
  split
  · omega
  · exact pw_le (Nat.mod_lt _ (by omega))
theorem tim_pos {a b : Nat} (ha : 1 ≤ a) (hb : 1 ≤ b) : 1 ≤ tim a b := by
  unfold tim
  rw [if_neg (by omega)]
  exact pw_pos (Nat.mod_lt _ (by omega))
theorem tim_comm (a b : Nat) : tim a b = tim b a := by
  unfold tim
  by_cases h : a = 0 ∨ b = 0
  · rw [if_pos h, if_pos (by omega)]
  · rw [if_neg h, if_neg (by omega), Nat.add_comm]
theorem wh_tim {a b : Nat} (ha : 1 ≤ a) (hb : 1 ≤ b) : wh (tim a b) = (wh a + wh b) % 255 := by
  unfold tim
  rw [if_neg (by omega), wh_pw (Nat.mod_lt _ (by omega))]
theorem tim_zero_left (b : Nat) : tim 0 b = 0 := by unfold tim; rw [if_pos (by omega)]
theorem tim_zero_right (a : Nat) : tim a 0 = 0 := by unfold tim; rw [if_pos (by omega)]
theorem tim_assoc (a b c : Nat) (_ha : a ≤ 255) (_hb : b ≤ 255) (_hc : c ≤ 255) : tim (tim a b) c = tim a (tim b c) := by
  by_cases h : a = 0 ∨ b = 0 ∨ c = 0
  · rcases h with rfl | rfl | rfl
    · rw [tim_zero_left, tim_zero_left, tim_zero_left]
    · rw [tim_zero_right, tim_zero_left, tim_zero_right]
    · rw [tim_zero_right, tim_zero_right, tim_zero_right]
  · have ha : 1 ≤ a := by omega
    have hb : 1 ≤ b := by omega
    have hc : 1 ≤ c := by omega
    have h1 := tim_pos ha hb
    have h2 := tim_pos hb hc
    have e1 : tim (tim a b) c = pw ((wh (tim a b) + wh c) % 255) := by rw [tim, if_neg (by omega)]
    have e2 : tim a (tim b c) = pw ((wh a + wh (tim b c)) % 255) := by rw [tim, if_neg (by omega)]
    rw [e1, e2, wh_tim ha hb, wh_tim hb hc]
    congr 1
    omega
theorem tim_one (a : Nat) (h : a ≤ 255) : tim a 1 = a := by
  by_cases h0 : a = 0
  · subst h0; exact tim_zero_left 1
  · unfold tim
    have h1 : wh 1 = 0 := by decide
    rw [if_neg (by omega), h1, Nat.add_zero, Nat.mod_eq_of_lt (wh_lt (by omega) h)]
    exact pw_wh (by omega) h
theorem ovr_tim (a b : Nat) (ha : a ≤ 255) (hb0 : 1 ≤ b) (hb : b ≤ 255) : ovr (tim a b) b = a := by
  by_cases h0 : a = 0
  · subst h0; rw [tim_zero_left]; rfl
  · have := tim_pos (a := a) (b := b) (by omega) hb0
    have h1 := wh_lt (by omega : 1 ≤ a) ha
    have h2 := wh_lt hb0 hb
    unfold ovr
    rw [if_neg (by omega), wh_tim (by omega) hb0, show ((wh a + wh b) % 255 + 255 - wh b) % 255 = wh a by omega]
    exact pw_wh (by omega) ha
theorem tim_ovr (a b : Nat) (ha : a ≤ 255) (hb0 : 1 ≤ b) (hb : b ≤ 255) : tim (ovr a b) b = a := by
  by_cases h0 : a = 0
  · subst h0; show tim 0 b = 0; exact tim_zero_left b
  · have h1 := wh_lt (by omega : 1 ≤ a) ha
    have h2 := wh_lt hb0 hb
    unfold ovr
    rw [if_neg h0]
    have h3 := pw_pos (n := (wh a + 255 - wh b) % 255) (Nat.mod_lt _ (by omega))
    unfold tim
    rw [if_neg (by omega), wh_pw (Nat.mod_lt _ (by omega)), show ((wh a + 255 - wh b) % 255 + wh b) % 255 = wh a by omega]
    exact pw_wh (by omega) ha
theorem tim_cancel {x y b : Nat} (hx : x ≤ 255) (hy : y ≤ 255) (hb0 : 1 ≤ b) (hb : b ≤ 255) (h : tim x b = tim y b) : x = y := by
  rw [← ovr_tim x b hx hb0 hb, h, ovr_tim y b hy hb0 hb]
theorem ovr_le (a b : Nat) : ovr a b ≤ 255 := by
  unfold ovr
  split
  · omega
  · exact pw_le (Nat.mod_lt _ (by omega))
/-- The product of chapter 01, as polynomials. -/
def clm (a b : Nat) : Nat → Nat → Nat
  | 0, p => p
  | n + 1, p => clm a b n (if b / 2 ^ (7 - n) % 2 = 1 then p ^^^ (a * 2 ^ (7 - n)) else p)
def rdc : Nat → Nat → Nat
  | 0, p => p % 256
  | n + 1, p => rdc n (if p / 2 ^ (n + 8) % 2 = 1 then p ^^^ (285 * 2 ^ n) else p)
def mulN (a b : Nat) : Nat := rdc 7 (clm a b 8 0)
/-- A sum over the bits of a number. -/
def lin (m : Nat → Nat) (b : Nat) : Nat := (if b.testBit 0 then m 0 else 0) ^^^ (if b.testBit 1 then m 1 else 0) ^^^ (if b.testBit 2 then m 2 else 0) ^^^ (if b.testBit 3 then m 3 else 0) ^^^ (if b.testBit 4 then m 4 else 0) ^^^ (if b.testBit 5 then m 5 else 0) ^^^ (if b.testBit 6 then m 6 else 0) ^^^ (if b.testBit 7 then m 7 else 0)
theorem sel_xor (p q : Bool) (m : Nat) : (if (p ^^ q) = true then m else 0) = (if p = true then m else 0) ^^^ (if q = true then m else 0) := by
  cases p <;> cases q <;> simp
theorem xor4 (a b c d : Nat) : (a ^^^ b) ^^^ (c ^^^ d) = (a ^^^ c) ^^^ (b ^^^ d) := by
  rw [Nat.xor_assoc, Nat.xor_assoc, ← Nat.xor_assoc b, Nat.xor_comm b c, Nat.xor_assoc]
theorem lin_xor (m : Nat → Nat) (b c : Nat) : lin m (b ^^^ c) = lin m b ^^^ lin m c := by
  unfold lin
  simp only [Nat.testBit_xor, sel_xor]
  simp only [xor4]
/-- What adds up. -/
def Adds (f : Nat → Nat) : Prop := f 0 = 0 ∧ ∀ x y, f (x ^^^ y) = f x ^^^ f y
theorem lin_pow : ∀ b : Fin 256, lin (fun i => 2 ^ i) b.val = b.val := by decide +kernel
theorem adds_if {f : Nat → Nat} (h : Adds f) (p : Bool) (m : Nat) : f (if p = true then m else 0) = if p = true then f m else 0 := by
  cases p
  · simp [h.1]
  · simp
theorem adds_lin {f : Nat → Nat} (h : Adds f) {b : Nat} (hb : b ≤ 255) : f b = lin (fun i => f (2 ^ i)) b := by
  have e := lin_pow ⟨b, by omega⟩
  simp only at e
  conv => lhs; rw [← e]
  unfold lin
  simp only [h.2, adds_if h]
theorem adds_ext {f g : Nat → Nat} (hf : Adds f) (hg : Adds g) (h : ∀ i : Fin 8, f (2 ^ i.val) = g (2 ^ i.val)) {b : Nat} (hb : b ≤ 255) : f b = g b := by
  rw [adds_lin hf hb, adds_lin hg hb]
  have h0 : f (2 ^ 0) = g (2 ^ 0) := h 0
  have h1 : f (2 ^ 1) = g (2 ^ 1) := h 1
  have h2 : f (2 ^ 2) = g (2 ^ 2) := h 2
  have h3 : f (2 ^ 3) = g (2 ^ 3) := h 3
  have h4 : f (2 ^ 4) = g (2 ^ 4) := h 4
  have h5 : f (2 ^ 5) = g (2 ^ 5) := h 5
  have h6 : f (2 ^ 6) = g (2 ^ 6) := h 6
  have h7 : f (2 ^ 7) = g (2 ^ 7) := h 7
  unfold lin
  simp only [h0, h1, h2, h3, h4, h5, h6, h7]
theorem bit_eq' (x i : Nat) : (x / 2 ^ i % 2 = 1) = (x.testBit i = true) := by
  rw [Nat.testBit_eq_decide_div_mod_eq, decide_eq_true_eq]
theorem xor_if (p : Bool) (x c : Nat) : (if p = true then x ^^^ c else x) = x ^^^ (if p = true then c else 0) := by
  cases p <;> simp
theorem rdc_xor : ∀ (n p q : Nat), rdc n (p ^^^ q) = rdc n p ^^^ rdc n q
  | 0, p, q => by simp only [rdc]; exact Nat.xor_mod_two_pow (n := 8)
  | n + 1, p, q => by
    simp only [rdc, bit_eq', xor_if, Nat.testBit_xor, sel_xor]
    rw [xor4, rdc_xor]
theorem rdc_zero : ∀ n, rdc n 0 = 0
  | 0 => rfl
  | n + 1 => by simp only [rdc]; rw [if_neg (by simp), rdc_zero]
theorem clm_lin (a b : Nat) : clm a b 8 0 = lin (fun i => a * 2 ^ i) b := by
  simp only [clm, bit_eq', xor_if, lin, Nat.zero_xor]
theorem mul_adds (a : Nat) : Adds (mulN a) := by
  constructor
  · unfold mulN
    rw [clm_lin]
    have : lin (fun i => a * 2 ^ i) 0 = 0 := by simp [lin]
    rw [this, rdc_zero]
  · intro x y
    unfold mulN
    rw [clm_lin, clm_lin, clm_lin, lin_xor, rdc_xor]
theorem mul_pow_xor (a b i : Nat) : (a ^^^ b) * 2 ^ i = (a * 2 ^ i) ^^^ (b * 2 ^ i) := by
  rw [← Nat.shiftLeft_eq, ← Nat.shiftLeft_eq, ← Nat.shiftLeft_eq, Nat.shiftLeft_xor_distrib]
theorem sum8 (u0 u1 u2 u3 u4 u5 u6 u7 v0 v1 v2 v3 v4 v5 v6 v7 : Nat) :
    (u0 ^^^ v0) ^^^ (u1 ^^^ v1) ^^^ (u2 ^^^ v2) ^^^ (u3 ^^^ v3) ^^^ (u4 ^^^ v4) ^^^ (u5 ^^^ v5) ^^^ (u6 ^^^ v6) ^^^ (u7 ^^^ v7) = (u0 ^^^ u1 ^^^ u2 ^^^ u3 ^^^ u4 ^^^ u5 ^^^ u6 ^^^ u7) ^^^ (v0 ^^^ v1 ^^^ v2 ^^^ v3 ^^^ v4 ^^^ v5 ^^^ v6 ^^^ v7) := by
  ac_rfl
theorem lin_add (f g : Nat → Nat) (b : Nat) : lin (fun i => f i ^^^ g i) b = lin f b ^^^ lin g b := by
  have hs : ∀ (p : Bool) (u v : Nat), (if p = true then u ^^^ v else 0) = (if p = true then u else 0) ^^^ (if p = true then v else 0) := by intro p u v; cases p <;> simp
  unfold lin
  simp only [hs]
  exact sum8 _ _ _ _ _ _ _ _ _ _ _ _ _ _ _ _
theorem mul_adds_left (b : Nat) : Adds (fun a => mulN a b) := by
  constructor
  · show rdc 7 (clm 0 b 8 0) = 0
    rw [clm_lin]
    have : lin (fun i => 0 * 2 ^ i) b = 0 := by simp [lin]
    rw [this, rdc_zero]
  · intro x y
    show rdc 7 (clm (x ^^^ y) b 8 0) = rdc 7 (clm x b 8 0) ^^^ rdc 7 (clm y b 8 0)
    rw [clm_lin, clm_lin, clm_lin, ← rdc_xor]
    congr 1
    simp only [mul_pow_xor]
    exact lin_add _ _ b
/-- The next power, as a sum. -/
def dblA (x : Nat) : Nat := (2 * x) ^^^ (if x.testBit 7 = true then 285 else 0)
theorem dblA_adds : Adds dblA := by
  constructor
  · rfl
  · intro x y
    unfold dblA
    rw [Nat.testBit_xor, sel_xor, xor4]
    have := mul_pow_xor x y 1
    rw [Nat.pow_one, Nat.mul_comm, Nat.mul_comm x, Nat.mul_comm y] at this
    rw [this]
theorem dbl_dblA : ∀ x : Fin 256, dbl x.val = dblA x.val := by decide +kernel
theorem adds_comp {f g : Nat → Nat} (hf : Adds f) (hg : Adds g) : Adds (fun x => f (g x)) :=
  ⟨by show f (g 0) = 0; rw [hg.1, hf.1], fun x y => by show f (g (x ^^^ y)) = _; rw [hg.2, hf.2]⟩
theorem mul_dbl_basis : ∀ i j : Fin 8, mulN (2 ^ i.val) (dblA (2 ^ j.val)) = dblA (mulN (2 ^ i.val) (2 ^ j.val)) := by decide +kernel
theorem mul_dbl {a b : Nat} (ha : a ≤ 255) (hb : b ≤ 255) : mulN a (dblA b) = dblA (mulN a b) := by
  refine adds_ext (adds_comp (mul_adds a) dblA_adds) (adds_comp dblA_adds (mul_adds a)) (fun j => ?_) hb
  exact adds_ext (f := fun a => mulN a (dblA (2 ^ j.val))) (g := fun a => dblA (mulN a (2 ^ j.val))) (mul_adds_left _) (adds_comp dblA_adds (mul_adds_left _)) (fun i => mul_dbl_basis i j) ha
theorem mul_one_basis : ∀ i : Fin 8, mulN (2 ^ i.val) 1 = 2 ^ i.val := by decide +kernel
theorem mul_one' {a : Nat} (ha : a ≤ 255) : mulN a 1 = a := adds_ext (g := fun x => x) (mul_adds_left 1) ⟨rfl, fun _ _ => rfl⟩ mul_one_basis ha
theorem dbl_pw : ∀ n : Fin 255, dbl (pw n.val) = pw ((n.val + 1) % 255) := by decide +kernel
theorem tim_dbl {a : Nat} (ha0 : 1 ≤ a) (ha : a ≤ 255) (n : Nat) (hn : n < 255) : tim a (pw ((n + 1) % 255)) = dbl (tim a (pw n)) := by
  have hm : (n + 1) % 255 < 255 := Nat.mod_lt _ (by omega)
  have h1 := pw_pos hn
  have h2 := pw_pos hm
  have h3 := wh_lt ha0 ha
  unfold tim
  rw [if_neg (by omega), if_neg (by omega), wh_pw hn, wh_pw hm, dbl_pw ⟨(wh a + n) % 255, Nat.mod_lt _ (by omega)⟩]
  congr 1
  simp only
  omega
theorem mul_tim_pw {a : Nat} (ha0 : 1 ≤ a) (ha : a ≤ 255) (n : Nat) (hn : n < 255) : mulN a (pw n) = tim a (pw n) := by
  induction n with
  | zero =>
    have h1 : pw 0 = 1 := by decide
    rw [h1, mul_one' ha, tim_one a ha]
  | succ n ih =>
    have hn' : n < 255 := by omega
    have e : pw (n + 1) = dbl (pw n) := by rw [dbl_pw ⟨n, hn'⟩]; simp only; rw [Nat.mod_eq_of_lt hn]
    have h2 := tim_dbl ha0 ha n hn'
    rw [Nat.mod_eq_of_lt hn] at h2
    have h3 := tim_le a (pw n)
    rw [h2, e, dbl_dblA ⟨pw n, by have := pw_le hn'; omega⟩, mul_dbl ha (pw_le hn'), ih hn', ← dbl_dblA ⟨tim a (pw n), by omega⟩]
theorem mul_tim {a b : Nat} (ha : a ≤ 255) (hb : b ≤ 255) : mulN a b = tim a b := by
  by_cases h : a = 0
  · subst h; rw [tim_zero_left]; exact (mul_adds_left b).1
  · by_cases h0 : b = 0
    · subst h0; rw [tim_zero_right]; exact (mul_adds a).1
    · rw [← pw_wh (a := b) (by omega) hb]
      exact mul_tim_pw (by omega) ha _ (wh_lt (by omega) hb)
theorem tim_xor (a b c : Nat) (ha : a ≤ 255) (hb : b ≤ 255) (hc : c ≤ 255) : tim a (b ^^^ c) = tim a b ^^^ tim a c := by
  have hx : b ^^^ c < 2 ^ 8 := Nat.xor_lt_two_pow (by omega) (by omega)
  rw [← mul_tim ha hb, ← mul_tim ha hc, ← mul_tim ha (by omega), (mul_adds a).2]
end Go.Proofs.Yteccjhiafnnnlaa
