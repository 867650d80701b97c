/- The examples of law 04: reckoned by the kernel. -/
import Derived.Test.YtoejejdolacpgaaSeal
namespace Go.Proofs.Ytoejejdolacpgaa
theorem live_true : Q.sluicegatelaw04_live.f = some true := by kernel_rfl
theorem live_then : (Q.sluicegatelaw04_live.f).bind (fun t => some t) = some true := by rw [live_true]; rfl
end Go.Proofs.Ytoejejdolacpgaa
