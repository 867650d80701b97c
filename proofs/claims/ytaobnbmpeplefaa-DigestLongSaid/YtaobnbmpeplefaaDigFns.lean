/- digest.Sum, digest.Hex and the document's answers, in the form in which their callers take them. -/
import Derived.Test.YtaobnbmpeplefaaDigIs
import Derived.Test.YtaobnbmpeplefaaRefHex
namespace Go.Proofs.Ytaobnbmpeplefaa
open Go.RowKit Q Go.Proofs.YtaobnbmpeplefaaW.PrintWords Go.Proofs.YtaobnbmpeplefaaW.PrintLast Go.Proofs.YtaobnbmpeplefaaW.PrintMore
def digest_Sum.f (a0 : ByteArray) : Option ByteArray := if a0.size ≤ 17592186044416 then some (B (SHA a0.data.toList)) else none
theorem digest_Sum.calls (a0 : ByteArray) (r : ByteArray) (w : World) (h : digest_Sum.f a0 = some r) :
    Calls Try.prog 10 #[.string a0] w fun e w' => e = .returned (.string r) ∧ Below w.heap.size w w' := by
  unfold digest_Sum.f at h
  split at h
  · rename_i hs
    obtain rfl := Option.some.inj h
    have := dsum_all a0.data.toList (by rw [size_data]; omega) w
    rw [B_eta] at this
    exact this
  · cases h
def sluicegateref03_Sum.f (a0 : ByteArray) : Option ByteArray := if a0.size ≤ 17592186044416 then some (B (SHA a0.data.toList)) else none
theorem sluicegateref03_Sum.calls (a0 : ByteArray) (r : ByteArray) (w : World) (h : sluicegateref03_Sum.f a0 = some r) :
    Calls Try.prog 11 #[.string a0] w fun e w' => e = .returned (.string r) ∧ Below w.heap.size w w' := by
  unfold sluicegateref03_Sum.f at h
  split at h
  · rename_i hs
    obtain rfl := Option.some.inj h
    have := refsum_all a0.data.toList (by rw [size_data]; omega) w
    rw [B_eta] at this
    exact this
  · cases h
def digest_Hex.f (a0 : ByteArray) : Option ByteArray := if a0.size ≤ 17592186044416 then some (B (hexS a0 a0.size)) else none
theorem digest_Hex.calls (a0 : ByteArray) (r : ByteArray) (w : World) (h : digest_Hex.f a0 = some r) :
    Calls Try.prog 12 #[.string a0] w fun e w' => e = .returned (.string r) ∧ Below w.heap.size w w' := by
  unfold digest_Hex.f at h
  split at h
  · rename_i hs
    obtain rfl := Option.some.inj h
    exact hex_calls a0 (by omega) w
  · cases h
def sluicegateref03_Hex.f (a0 : ByteArray) : Option ByteArray := if a0.size ≤ 17592186044416 then some (B (hexS a0 a0.size)) else none
theorem sluicegateref03_Hex.calls (a0 : ByteArray) (r : ByteArray) (w : World) (h : sluicegateref03_Hex.f a0 = some r) :
    Calls Try.prog 13 #[.string a0] w fun e w' => e = .returned (.string r) ∧ Below w.heap.size w w' := by
  unfold sluicegateref03_Hex.f at h
  split at h
  · rename_i hs
    obtain rfl := Option.some.inj h
    exact refhex_calls a0 (by omega) w
  · cases h
end Go.Proofs.Ytaobnbmpeplefaa
