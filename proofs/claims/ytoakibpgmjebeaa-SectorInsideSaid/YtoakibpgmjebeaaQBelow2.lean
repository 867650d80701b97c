/- A region that draws its order: reads and calls that leave what was there as it was, then a tail in one forced order. The class of worlds is 'below the heap's size of the region's begin'. -/
import Derived.Test.YtoakibpgmjebeaaQTail
import Derived.Test.YtoakibpgmjebeaaProg
import Derived.Test.YtoakibpgmjebeaaWWords
import Derived.Below
namespace Go.Proofs.Ytoakibpgmjebeaa
open Go.RowKit
section
variable {P : Program} {ops : Array Oper} {W0 : World}
theorem region_below_tail {id : Nat} {Q : Exit → Act → World → Prop} {a : Act} {w : World} {l : List Oper} (n : Nat) (hm : P.follows .mixedOrders = true) (hB : Region.lexTailB .any l.toArray n = true)
    (h : wpQuiet P l.toArray (Below w.heap.size w) (fun a' => ∀ w', Below w.heap.size w w' → wpList P l.toArray Q (l.drop n) a' w') (l.take n) a) : (Code.region id l.toArray true).wp P Q a w :=
  region_class_tail (Below w.heap.size w) n hm hB (Below.drew (Below.refl _ _)) h
theorem q_ld {o : Oper} {rest : List Oper} {Q : Act → Prop} {a : Act} (T : TypeId) (x : Operand) (N : Nat) (ad : Addr) (v : Value) (ho : o.op = .load T x) (hN : o.dst = some N) (hg : o.guard = none) (hx : a.eval x = .pointer (some ad))
    (hT : ∀ (w' : World), w'.cell? ad = some v → (Instr.loadAt T (.pointer (some ad))).run P w' = .ok v w') (hc : W0.cell? ad = some v) (hlt : ad.block < W0.heap.size)
    (h : wpQuiet P ops (Below W0.heap.size W0) Q rest (a.put (some N) v)) : wpQuiet P ops (Below W0.heap.size W0) Q (o :: rest) a := by
  refine q_val v (some N) hN (by unfold Region.wanted; rw [hg]) (fun w' hw' => ?_) h
  have := hT w' ((hw'.cell hlt).trans hc)
  unfold execOp
  simp only [ho, hx, Sem.run_bind, this, Result.andThen_ok, Sem.run_pure]
theorem q_go {o : Oper} {rest : List Oper} {Q : Act → Prop} {a : Act} {f : FuncId} {fn : Func} {ops1 : Array Operand} {ts : Array TypeId} (hf : P.funcs[f]? = some fn) (hname : (fn.name == "runtime.NumGoroutine") = false) (hb : fn.body.isSome = true) (args : Array Value) (v : Value) (N : Nat)
    (hop : o.op = .call { callee := .value (.func f), args := ops1, argTypes := ts }) (hN : o.dst = some N) (hg : o.guard = none) (hargs : ops1.map a.eval = args)
    (hc : ∀ w', Below W0.heap.size W0 w' → Calls P f args w' fun e w'' => e = .returned v ∧ Below w'.heap.size w' w'')
    (h : wpQuiet P ops (Below W0.heap.size W0) Q rest (a.put (some N) v)) : wpQuiet P ops (Below W0.heap.size W0) Q (o :: rest) a := by
  refine q_call f args v (some N) hN (by unfold Region.wanted; rw [hg]) (fun w' => ?_) (fun w' hw' => ?_) h
  · have h1 : fn.name ≠ "runtime.NumGoroutine" := by simpa using hname
    obtain ⟨c, hc'⟩ := Option.isSome_iff_exists.1 hb
    unfold execOp
    simp [hop, resolve, Deferred.ofValue, invoke, Act.eval, hargs, callFunc, hf, h1, hc']
  · refine (hc w' hw').mono ?_
    rintro e w'' ⟨he, hb'⟩
    exact ⟨he, hw'.trans (hb'.mono hw'.size)⟩
end
theorem ld_int (ad : Addr) (v : Value) (w : World) (h : w.cell? ad = some v) : (Instr.loadAt 3 (.pointer (some ad))).run Try.prog w = .ok v w := by
  go_simp
theorem ld_str (ad : Addr) (v : Value) (w : World) (h : w.cell? ad = some v) : (Instr.loadAt 9 (.pointer (some ad))).run Try.prog w = .ok v w := by
  go_simp
end Go.Proofs.Ytoakibpgmjebeaa
