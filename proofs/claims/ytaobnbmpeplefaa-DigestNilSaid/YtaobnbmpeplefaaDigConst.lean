/- digest.constants, digest.begin. -/
import Derived.Test.YtaobnbmpeplefaaDigDefs
import Derived.Deep.WholeRow
namespace Go.Proofs.Ytaobnbmpeplefaa
open Go.RowKit Q Go.Proofs.YtaobnbmpeplefaaW.PrintWords Go.Proofs.YtaobnbmpeplefaaW.PrintLast Go.Proofs.YtaobnbmpeplefaaW.PrintMore
def KL : List Int := [1116352408, 1899447441, 3049323471, 3921009573, 961987163, 1508970993, 2453635748, 2870763221, 3624381080, 310598401, 607225278, 1426881987, 1925078388, 2162078206, 2614888103, 3248222580, 3835390401, 4022224774, 264347078, 604807628, 770255983, 1249150122, 1555081692, 1996064986, 2554220882, 2821834349, 2952996808, 3210313671, 3336571891, 3584528711, 113926993, 338241895, 666307205, 773529912, 1294757372, 1396182291, 1695183700, 1986661051, 2177026350, 2456956037, 2730485921, 2820302411, 3259730800, 3345764771, 3516065817, 3600352804, 4094571909, 275423344, 430227734, 506948616, 659060556, 883997877, 958139571, 1322822218, 1537002063, 1747873779, 1955562222, 2024104815, 2227730452, 2361852424, 2428436474, 2756734187, 3204031479, 3329325298]
def H0 : List Int := [1779033703, 3144134277, 1013904242, 2773480762, 1359893119, 2600822924, 528734635, 1541459225]
theorem setRow_new (w : World) (c c' : Array Value) (t : TypeId) : (w.alloc (.cells c t)).setRow w.heap.size c' = w.alloc (.cells c' t) := World.setRow_alloc_new w c c' t
theorem KL_len : KL.length = 64 := by decide
theorem H0_len : H0.length = 8 := by decide
theorem zs_len (n : Nat) : (zs n).length = n := List.length_replicate
theorem size8 : (Try.prog.info? 46).map (·.size) = some 8 := by kernel_rfl
theorem size64 : (Try.prog.info? 58).map (·.size) = some 64 := by kernel_rfl
set_option maxRecDepth 100000 in
set_option maxHeartbeats 200000 in
theorem begin_calls (w : World) : Calls Try.prog 21 #[] w fun e w' => e = .returned (.agg (arr .u32 H0)) ∧ Below w.heap.size w w' := by
  have hz := zero8
  have hB : Hid (Below w.heap.size w (w.alloc (.cells (arr .u32 H0) 46))) := Lib.hid ((Below.refl _ _).alloc (Nat.le_refl _) _)
  go_enter Try.func21, Try.ntmps21
  go_wp2_with (refine gate_ (.store 46 (.tmp 0) (.tmp 1)) rfl ?_; refine wpList_plain rfl (fun K hK => ?_); refine wp_store_row 46 (.tmp 0) (.tmp 1) rfl w.heap.size (arr .u32 H0) rfl rfl 46 (arr .u32 (zs 8)) (heap_alloc_new w _) (by rw [arr_size, H0_len]; exact size8) (by rw [arr_size, arr_size, H0_len, zs_len]) (arr_one _ _) (hK _ _ ?_); rw [setRow_new]; clear hK K)
  refine bodyPost_ret (results_cell_row rfl _ _ w.heap.size 46 (arr .u32 H0) (0, 0) _ rfl (heap_alloc_new w _) Try.underlying46 rfl (by rw [arr_size, H0_len]; exact size8)) rfl ⟨rfl, hB.out⟩
theorem build_as {P : Program} {ops : Array Oper} {rest : List Oper} {o : Oper} {a : Act} {w : World} {Q : Exit → Act → World → Prop} (t : TypeId) (c : Array Value) (N : Option Tmp) (hN : o.dst = N) (hg : o.guard = none) (parts : Array (Nat × Operand)) (ho : o.op = .build t parts)
    (hf : P.built t (parts.map fun (i, x) => (i, a.eval x)).toList = some c) (h : wpList P ops Q rest (a.put N (.agg c)) w) : wpList P ops Q (o :: rest) a w := by
  subst hN
  refine wpList_build hg t parts ho (by rw [hf]; rfl) ?_
  rw [hf]
  exact h
set_option maxRecDepth 100000 in
set_option maxHeartbeats 400000 in
theorem constants_calls (w : World) : Calls Try.prog 29 #[] w fun e w' => e = .returned (.agg (arr .u32 KL)) ∧ Below w.heap.size w w' := by
  have hz := zero64
  have hB : Hid (Below w.heap.size w (w.alloc (.cells (arr .u32 KL) 58))) := Lib.hid ((Below.refl _ _).alloc (Nat.le_refl _) _)
  go_enter Try.func29, Try.ntmps29
  go_wp2_with (first | (refine build_as 58 (arr .u32 KL) (some 1) rfl rfl _ rfl (by kernel_rfl) ?_; simp only [Act.put, List.setIfInBounds_toArray, List.set_cons_zero, List.set_cons_succ]) | (refine gate_ (.store 58 (.tmp 0) (.tmp 1)) rfl ?_; refine wpList_plain rfl (fun K hK => ?_); refine wp_store_row 58 (.tmp 0) (.tmp 1) rfl w.heap.size (arr .u32 KL) rfl rfl 58 (arr .u32 (zs 64)) (heap_alloc_new w _) (by rw [arr_size, KL_len]; exact size64) (by rw [arr_size, arr_size, KL_len, zs_len]) (arr_one _ _) (hK _ _ ?_); rw [setRow_new]; clear hK K))
  refine bodyPost_ret (results_cell_row rfl _ _ w.heap.size 58 (arr .u32 KL) (0, 0) _ rfl (heap_alloc_new w _) Try.underlying58 rfl (by rw [arr_size, KL_len]; exact size64)) rfl ⟨rfl, hB.out⟩
end Go.Proofs.Ytaobnbmpeplefaa
