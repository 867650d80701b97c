/-
  No cell of these rows narrows 'for every input' (looked for: loops, veiled, ifaces, maps, wideKeys, modest, calm, conditions, laid).
  DERIVED. THE GIVEN ROWS OF THIS SEAT. 6 by the template 'for every input the law returns true; each argument reads behind the call as it read before'; 0 by the template 'total and deterministic' (their statements: YtmfcbfgijimliaaTotals.lean).
  GIVEN WITH THE SEED: the statements are not yours to turn. If you find one false, say at which input.
  Laid BY PROGRAM, IN A SANDBOX (cutbox-rows.mjs): the forced cells as the released guide's own fill.sh prints them over the translation a86d95f6a765f0f4… (all of the seat's roots in one cut). By AI agents, Wed Nov 11 2026. No macro, syntax, notation, axiom, sorry.
-/
import Derived.Test.YtmfcbfgijimliaaChecked
import GoSem.Claim
import GoSem.ClaimJoined
import GoSem.ClaimMapViews
import Derived.JoinedTies
import Derived.KernelRfl
namespace Go.Proofs.Ytmfcbfgijimliaa
/- THE CELL 'sum', in the pinned program and in every row, IS THE sha256 OF THE DUMP (.gsa) THAT YtmfcbfgijimliaaProg.lean LOADS. Nothing in Lean hashes anything: it is a label: what it is worth is what the hold of that sum in a sandbox is worth. -/
noncomputable def Try.pinned : Pinned := { name := "ytmfcbfgijimliaa", sum := "a86d95f6a765f0f436a66bc1d38f8d49c412a10dbb02531d75152e89ae384872", checked := Try.checked }
namespace Rows
def none {H : Type} : Left H := { results := [], args := [] }

/-- 'sluicegatelaw12.ReplayTells': WHATEVER THE INPUT: true; the input reads as it did. -/
def replayTellsSpec : ChangeSpec := { name := "replayTells", fn := fun _ => fun
  | [d1, d2] => { results := [.lit (.bool true)], args := [d1, d2] }
  | _ => none }
def replayTellsRow : OpenClaim := { program := "ytmfcbfgijimliaa", sum := "a86d95f6a765f0f436a66bc1d38f8d49c412a10dbb02531d75152e89ae384872", func := "sluicegate/sluicegatelaw12.ReplayTells", spec := "replayTells", inPlace := ["internal/abi.NoEscape"], unfollowed := true, recurses := true, apart := false }
def ReplayTellsSaid : Prop := replayTellsRow.holds Try.pinned (OpenSpec.ofChange replayTellsSpec)

/-- ITS FALSE NEIGHBOUR: 'it returns false'. Refute it at one input. -/
def replayTellsWrong : ChangeSpec := { name := "replayTells", fn := fun _ => fun
  | [d1, d2] => { results := [.lit (.bool false)], args := [d1, d2] }
  | _ => none }
def ReplayTellsWrongFalsely : Prop := replayTellsRow.holds Try.pinned (OpenSpec.ofChange replayTellsWrong)

/-- 'sluicegatelaw12.ReplayChooses': WHATEVER THE INPUT: true; the input reads as it did. -/
def replayChoosesSpec : ChangeSpec := { name := "replayChooses", fn := fun _ => fun
  | [d] => { results := [.lit (.bool true)], args := [d] }
  | _ => none }
def replayChoosesRow : OpenClaim := { program := "ytmfcbfgijimliaa", sum := "a86d95f6a765f0f436a66bc1d38f8d49c412a10dbb02531d75152e89ae384872", func := "sluicegate/sluicegatelaw12.ReplayChooses", spec := "replayChooses", inPlace := ["internal/abi.NoEscape"], unfollowed := true, recurses := true, apart := false }
def ReplayChoosesSaid : Prop := replayChoosesRow.holds Try.pinned (OpenSpec.ofChange replayChoosesSpec)

/-- ITS FALSE NEIGHBOUR: 'it returns false'. Refute it at one input. -/
def replayChoosesWrong : ChangeSpec := { name := "replayChooses", fn := fun _ => fun
  | [d] => { results := [.lit (.bool false)], args := [d] }
  | _ => none }
def ReplayChoosesWrongFalsely : Prop := replayChoosesRow.holds Try.pinned (OpenSpec.ofChange replayChoosesWrong)

/-- 'sluicegatelaw12.ReplayLongest': WHATEVER THE INPUT: true; the input reads as it did. -/
def replayLongestSpec : ChangeSpec := { name := "replayLongest", fn := fun _ => fun
  | [d] => { results := [.lit (.bool true)], args := [d] }
  | _ => none }
def replayLongestRow : OpenClaim := { program := "ytmfcbfgijimliaa", sum := "a86d95f6a765f0f436a66bc1d38f8d49c412a10dbb02531d75152e89ae384872", func := "sluicegate/sluicegatelaw12.ReplayLongest", spec := "replayLongest", inPlace := ["internal/abi.NoEscape"], unfollowed := true, recurses := true, apart := false }
def ReplayLongestSaid : Prop := replayLongestRow.holds Try.pinned (OpenSpec.ofChange replayLongestSpec)

/-- ITS FALSE NEIGHBOUR: 'it returns false'. Refute it at one input. -/
def replayLongestWrong : ChangeSpec := { name := "replayLongest", fn := fun _ => fun
  | [d] => { results := [.lit (.bool false)], args := [d] }
  | _ => none }
def ReplayLongestWrongFalsely : Prop := replayLongestRow.holds Try.pinned (OpenSpec.ofChange replayLongestWrong)

/-- 'sluicegatelaw12.ReplayMends': WHATEVER THE INPUT: true; the input reads as it did. -/
def replayMendsSpec : ChangeSpec := { name := "replayMends", fn := fun _ => fun
  | [d1, d2] => { results := [.lit (.bool true)], args := [d1, d2] }
  | _ => none }
def replayMendsRow : OpenClaim := { program := "ytmfcbfgijimliaa", sum := "a86d95f6a765f0f436a66bc1d38f8d49c412a10dbb02531d75152e89ae384872", func := "sluicegate/sluicegatelaw12.ReplayMends", spec := "replayMends", inPlace := ["internal/abi.NoEscape"], unfollowed := true, recurses := true, apart := false }
def ReplayMendsSaid : Prop := replayMendsRow.holds Try.pinned (OpenSpec.ofChange replayMendsSpec)

/-- ITS FALSE NEIGHBOUR: 'it returns false'. Refute it at one input. -/
def replayMendsWrong : ChangeSpec := { name := "replayMends", fn := fun _ => fun
  | [d1, d2] => { results := [.lit (.bool false)], args := [d1, d2] }
  | _ => none }
def ReplayMendsWrongFalsely : Prop := replayMendsRow.holds Try.pinned (OpenSpec.ofChange replayMendsWrong)

/-- 'sluicegatelaw12.ReplayCut': WHATEVER THE INPUT: true; the input reads as it did. -/
def replayCutSpec : ChangeSpec := { name := "replayCut", fn := fun _ => fun
  | [d1, d2, d3] => { results := [.lit (.bool true)], args := [d1, d2, d3] }
  | _ => none }
def replayCutRow : OpenClaim := { program := "ytmfcbfgijimliaa", sum := "a86d95f6a765f0f436a66bc1d38f8d49c412a10dbb02531d75152e89ae384872", func := "sluicegate/sluicegatelaw12.ReplayCut", spec := "replayCut", inPlace := ["internal/abi.NoEscape"], unfollowed := true, recurses := true, apart := false }
def ReplayCutSaid : Prop := replayCutRow.holds Try.pinned (OpenSpec.ofChange replayCutSpec)

/-- ITS FALSE NEIGHBOUR: 'it returns false'. Refute it at one input. -/
def replayCutWrong : ChangeSpec := { name := "replayCut", fn := fun _ => fun
  | [d1, d2, d3] => { results := [.lit (.bool false)], args := [d1, d2, d3] }
  | _ => none }
def ReplayCutWrongFalsely : Prop := replayCutRow.holds Try.pinned (OpenSpec.ofChange replayCutWrong)

/-- 'sluicegatelaw12.ReplayOrder': WHATEVER THE INPUT: true; the input reads as it did. -/
def replayOrderSpec : ChangeSpec := { name := "replayOrder", fn := fun _ => fun
  | [d1, d2, d3] => { results := [.lit (.bool true)], args := [d1, d2, d3] }
  | _ => none }
def replayOrderRow : OpenClaim := { program := "ytmfcbfgijimliaa", sum := "a86d95f6a765f0f436a66bc1d38f8d49c412a10dbb02531d75152e89ae384872", func := "sluicegate/sluicegatelaw12.ReplayOrder", spec := "replayOrder", inPlace := ["internal/abi.NoEscape"], unfollowed := true, recurses := true, apart := false }
def ReplayOrderSaid : Prop := replayOrderRow.holds Try.pinned (OpenSpec.ofChange replayOrderSpec)

/-- ITS FALSE NEIGHBOUR: 'it returns false'. Refute it at one input. -/
def replayOrderWrong : ChangeSpec := { name := "replayOrder", fn := fun _ => fun
  | [d1, d2, d3] => { results := [.lit (.bool false)], args := [d1, d2, d3] }
  | _ => none }
def ReplayOrderWrongFalsely : Prop := replayOrderRow.holds Try.pinned (OpenSpec.ofChange replayOrderWrong)

/- THE SECOND FORM. 'bulk': how many values and letters a reading holds, each counted each time it is reached (what is shared counts as often as it is met; a slice's spare places count too). A statement '..UptoSaid' is the law's where the arguments, and the package variables that the reading takes, are together of bulk at most 1048576: NARROWER than '..Said'. Prove '..Said' where nothing that the law and all that it calls make is longer than what came in: it says more and counts as full. Else prove '..UptoSaid'. A law counts once. -/
mutual
def uptoBulk {H : Type} : DataW H → Nat
  | .lit (.string bytes) => bytes.length + 1
  | .lit _ => 1
  | .nil => 1
  | .ptr d => uptoBulk d + 1
  | .slice elems spare => uptoBulkAll elems + uptoBulkAll spare + 1
  | .agg parts => uptoBulkAll parts + 1
  | .iface _ d => uptoBulk d + 1
  | .map entries => uptoBulkEntries entries + 1
  | .held _ => 1
def uptoBulkAll {H : Type} : List (DataW H) → Nat
  | [] => 0
  | d :: r => uptoBulk d + uptoBulkAll r
def uptoBulkEntries {H : Type} : List (Lit × DataW H) → Nat
  | [] => 0
  | x :: r => uptoBulkEntry x + uptoBulkEntries r
def uptoBulkEntry {H : Type} : Lit × DataW H → Nat
  | (.string bytes, d) => bytes.length + uptoBulk d + 1
  | (_, d) => uptoBulk d + 1
 end
def uptoSmall : (H : Type) → List (DataW H) → Bool := fun _ ds => decide (uptoBulkAll ds ≤ 1048576)
def OpenSpec.upto (s : _root_.Go.ChangeSpec) : _root_.Go.OpenSpec := { _root_.Go.OpenSpec.ofChange s with cond := some uptoSmall }

/-- 'sluicegatelaw12.ReplayTells', WHERE WHAT IT READS IS OF BULK AT MOST 1048576: true; the input reads as it did. -/
def replayTellsUptoRow : OpenClaim := { program := "ytmfcbfgijimliaa", sum := "a86d95f6a765f0f436a66bc1d38f8d49c412a10dbb02531d75152e89ae384872", func := "sluicegate/sluicegatelaw12.ReplayTells", spec := "replayTells", inPlace := ["internal/abi.NoEscape"], unfollowed := true, recurses := true, apart := false, narrowed := true }
def ReplayTellsUptoSaid : Prop := replayTellsUptoRow.holds Try.pinned (OpenSpec.upto replayTellsSpec)

/-- 'sluicegatelaw12.ReplayChooses', WHERE WHAT IT READS IS OF BULK AT MOST 1048576: true; the input reads as it did. -/
def replayChoosesUptoRow : OpenClaim := { program := "ytmfcbfgijimliaa", sum := "a86d95f6a765f0f436a66bc1d38f8d49c412a10dbb02531d75152e89ae384872", func := "sluicegate/sluicegatelaw12.ReplayChooses", spec := "replayChooses", inPlace := ["internal/abi.NoEscape"], unfollowed := true, recurses := true, apart := false, narrowed := true }
def ReplayChoosesUptoSaid : Prop := replayChoosesUptoRow.holds Try.pinned (OpenSpec.upto replayChoosesSpec)

/-- 'sluicegatelaw12.ReplayLongest', WHERE WHAT IT READS IS OF BULK AT MOST 1048576: true; the input reads as it did. -/
def replayLongestUptoRow : OpenClaim := { program := "ytmfcbfgijimliaa", sum := "a86d95f6a765f0f436a66bc1d38f8d49c412a10dbb02531d75152e89ae384872", func := "sluicegate/sluicegatelaw12.ReplayLongest", spec := "replayLongest", inPlace := ["internal/abi.NoEscape"], unfollowed := true, recurses := true, apart := false, narrowed := true }
def ReplayLongestUptoSaid : Prop := replayLongestUptoRow.holds Try.pinned (OpenSpec.upto replayLongestSpec)

/-- 'sluicegatelaw12.ReplayMends', WHERE WHAT IT READS IS OF BULK AT MOST 1048576: true; the input reads as it did. -/
def replayMendsUptoRow : OpenClaim := { program := "ytmfcbfgijimliaa", sum := "a86d95f6a765f0f436a66bc1d38f8d49c412a10dbb02531d75152e89ae384872", func := "sluicegate/sluicegatelaw12.ReplayMends", spec := "replayMends", inPlace := ["internal/abi.NoEscape"], unfollowed := true, recurses := true, apart := false, narrowed := true }
def ReplayMendsUptoSaid : Prop := replayMendsUptoRow.holds Try.pinned (OpenSpec.upto replayMendsSpec)

/-- 'sluicegatelaw12.ReplayCut', WHERE WHAT IT READS IS OF BULK AT MOST 1048576: true; the input reads as it did. -/
def replayCutUptoRow : OpenClaim := { program := "ytmfcbfgijimliaa", sum := "a86d95f6a765f0f436a66bc1d38f8d49c412a10dbb02531d75152e89ae384872", func := "sluicegate/sluicegatelaw12.ReplayCut", spec := "replayCut", inPlace := ["internal/abi.NoEscape"], unfollowed := true, recurses := true, apart := false, narrowed := true }
def ReplayCutUptoSaid : Prop := replayCutUptoRow.holds Try.pinned (OpenSpec.upto replayCutSpec)

/-- 'sluicegatelaw12.ReplayOrder', WHERE WHAT IT READS IS OF BULK AT MOST 1048576: true; the input reads as it did. -/
def replayOrderUptoRow : OpenClaim := { program := "ytmfcbfgijimliaa", sum := "a86d95f6a765f0f436a66bc1d38f8d49c412a10dbb02531d75152e89ae384872", func := "sluicegate/sluicegatelaw12.ReplayOrder", spec := "replayOrder", inPlace := ["internal/abi.NoEscape"], unfollowed := true, recurses := true, apart := false, narrowed := true }
def ReplayOrderUptoSaid : Prop := replayOrderUptoRow.holds Try.pinned (OpenSpec.upto replayOrderSpec)

end Rows
end Go.Proofs.Ytmfcbfgijimliaa
