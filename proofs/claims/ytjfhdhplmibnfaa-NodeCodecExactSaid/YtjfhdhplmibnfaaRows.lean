/-
  No cell of these rows narrows 'for every input' (looked for: loops, veiled, ifaces, maps, wideKeys, modest, calm, conditions, laid).
  DERIVED. THE GIVEN ROWS OF THIS SEAT. 17 by the template 'for every input the law returns true; each argument reads behind the call as it read before'; 0 by the template 'total and deterministic' (their statements: YtjfhdhplmibnfaaTotals.lean).
  GIVEN WITH THE SEED: the statements are not yours to turn. If you find one false, say at which input.
  Laid BY PROGRAM, IN A SANDBOX (cutbox-rows.mjs): the forced cells as the released guide's own fill.sh prints them over the translation ac83089a1ef86ef0… (all of the seat's roots in one cut). By AI agents, Wed Nov 11 2026. No macro, syntax, notation, axiom, sorry.
-/
import Derived.Test.YtjfhdhplmibnfaaChecked
import GoSem.Claim
import GoSem.ClaimJoined
import GoSem.ClaimMapViews
import Derived.JoinedTies
import Derived.KernelRfl
namespace Go.Proofs.Ytjfhdhplmibnfaa
/- THE CELL 'sum', in the pinned program and in every row, IS THE sha256 OF THE DUMP (.gsa) THAT YtjfhdhplmibnfaaProg.lean LOADS. Nothing in Lean hashes anything: it is a label: what it is worth is what the hold of that sum in a sandbox is worth. -/
noncomputable def Try.pinned : Pinned := { name := "ytjfhdhplmibnfaa", sum := "ac83089a1ef86ef0174a2b8ecfd026ca8fe60646d8067f5a6e0549746e68e086", checked := Try.checked }
namespace Rows
def none {H : Type} : Left H := { results := [], args := [] }

/-- 'multikernellaw11.CapRetypeExact': WHATEVER THE INPUT: true; the input reads as it did. -/
def capRetypeExactSpec : ChangeSpec := { name := "capRetypeExact", fn := fun _ => fun
  | [d1, d2, d3, d4, d5, d6, d7] => { results := [.lit (.bool true)], args := [d1, d2, d3, d4, d5, d6, d7] }
  | _ => none }
def capRetypeExactRow : OpenClaim := { program := "ytjfhdhplmibnfaa", sum := "ac83089a1ef86ef0174a2b8ecfd026ca8fe60646d8067f5a6e0549746e68e086", func := "multikernel/multikernellaw11.CapRetypeExact", spec := "capRetypeExact", apart := false }
def CapRetypeExactSaid : Prop := capRetypeExactRow.holds Try.pinned (OpenSpec.ofChange capRetypeExactSpec)

/-- ITS FALSE NEIGHBOUR: 'it returns false'. Refute it at one input. -/
def capRetypeExactWrong : ChangeSpec := { name := "capRetypeExact", fn := fun _ => fun
  | [d1, d2, d3, d4, d5, d6, d7] => { results := [.lit (.bool false)], args := [d1, d2, d3, d4, d5, d6, d7] }
  | _ => none }
def CapRetypeExactWrongFalsely : Prop := capRetypeExactRow.holds Try.pinned (OpenSpec.ofChange capRetypeExactWrong)

/-- 'multikernellaw11.CapRetypeSplits': WHATEVER THE INPUT: true; the input reads as it did. -/
def capRetypeSplitsSpec : ChangeSpec := { name := "capRetypeSplits", fn := fun _ => fun
  | [d1, d2, d3, d4, d5, d6, d7] => { results := [.lit (.bool true)], args := [d1, d2, d3, d4, d5, d6, d7] }
  | _ => none }
def capRetypeSplitsRow : OpenClaim := { program := "ytjfhdhplmibnfaa", sum := "ac83089a1ef86ef0174a2b8ecfd026ca8fe60646d8067f5a6e0549746e68e086", func := "multikernel/multikernellaw11.CapRetypeSplits", spec := "capRetypeSplits", apart := false }
def CapRetypeSplitsSaid : Prop := capRetypeSplitsRow.holds Try.pinned (OpenSpec.ofChange capRetypeSplitsSpec)

/-- ITS FALSE NEIGHBOUR: 'it returns false'. Refute it at one input. -/
def capRetypeSplitsWrong : ChangeSpec := { name := "capRetypeSplits", fn := fun _ => fun
  | [d1, d2, d3, d4, d5, d6, d7] => { results := [.lit (.bool false)], args := [d1, d2, d3, d4, d5, d6, d7] }
  | _ => none }
def CapRetypeSplitsWrongFalsely : Prop := capRetypeSplitsRow.holds Try.pinned (OpenSpec.ofChange capRetypeSplitsWrong)

/-- 'multikernellaw11.CapDevice': WHATEVER THE INPUT: true; the input reads as it did. -/
def capDeviceSpec : ChangeSpec := { name := "capDevice", fn := fun _ => fun
  | [d1, d2, d3] => { results := [.lit (.bool true)], args := [d1, d2, d3] }
  | _ => none }
def capDeviceRow : OpenClaim := { program := "ytjfhdhplmibnfaa", sum := "ac83089a1ef86ef0174a2b8ecfd026ca8fe60646d8067f5a6e0549746e68e086", func := "multikernel/multikernellaw11.CapDevice", spec := "capDevice", apart := false }
def CapDeviceSaid : Prop := capDeviceRow.holds Try.pinned (OpenSpec.ofChange capDeviceSpec)

/-- ITS FALSE NEIGHBOUR: 'it returns false'. Refute it at one input. -/
def capDeviceWrong : ChangeSpec := { name := "capDevice", fn := fun _ => fun
  | [d1, d2, d3] => { results := [.lit (.bool false)], args := [d1, d2, d3] }
  | _ => none }
def CapDeviceWrongFalsely : Prop := capDeviceRow.holds Try.pinned (OpenSpec.ofChange capDeviceWrong)

/-- 'multikernellaw11.CapAttenuate': WHATEVER THE INPUT: true; the input reads as it did. -/
def capAttenuateSpec : ChangeSpec := { name := "capAttenuate", fn := fun _ => fun
  | [d1, d2, d3, d4, d5, d6, d7] => { results := [.lit (.bool true)], args := [d1, d2, d3, d4, d5, d6, d7] }
  | _ => none }
def capAttenuateRow : OpenClaim := { program := "ytjfhdhplmibnfaa", sum := "ac83089a1ef86ef0174a2b8ecfd026ca8fe60646d8067f5a6e0549746e68e086", func := "multikernel/multikernellaw11.CapAttenuate", spec := "capAttenuate", apart := false }
def CapAttenuateSaid : Prop := capAttenuateRow.holds Try.pinned (OpenSpec.ofChange capAttenuateSpec)

/-- ITS FALSE NEIGHBOUR: 'it returns false'. Refute it at one input. -/
def capAttenuateWrong : ChangeSpec := { name := "capAttenuate", fn := fun _ => fun
  | [d1, d2, d3, d4, d5, d6, d7] => { results := [.lit (.bool false)], args := [d1, d2, d3, d4, d5, d6, d7] }
  | _ => none }
def CapAttenuateWrongFalsely : Prop := capAttenuateRow.holds Try.pinned (OpenSpec.ofChange capAttenuateWrong)

/-- 'multikernellaw11.CapRetypePlaces': WHATEVER THE INPUT: true; the input reads as it did. -/
def capRetypePlacesSpec : ChangeSpec := { name := "capRetypePlaces", fn := fun _ => fun
  | [d1, d2, d3, d4, d5, d6, d7] => { results := [.lit (.bool true)], args := [d1, d2, d3, d4, d5, d6, d7] }
  | _ => none }
def capRetypePlacesRow : OpenClaim := { program := "ytjfhdhplmibnfaa", sum := "ac83089a1ef86ef0174a2b8ecfd026ca8fe60646d8067f5a6e0549746e68e086", func := "multikernel/multikernellaw11.CapRetypePlaces", spec := "capRetypePlaces", apart := false }
def CapRetypePlacesSaid : Prop := capRetypePlacesRow.holds Try.pinned (OpenSpec.ofChange capRetypePlacesSpec)

/-- ITS FALSE NEIGHBOUR: 'it returns false'. Refute it at one input. -/
def capRetypePlacesWrong : ChangeSpec := { name := "capRetypePlaces", fn := fun _ => fun
  | [d1, d2, d3, d4, d5, d6, d7] => { results := [.lit (.bool false)], args := [d1, d2, d3, d4, d5, d6, d7] }
  | _ => none }
def CapRetypePlacesWrongFalsely : Prop := capRetypePlacesRow.holds Try.pinned (OpenSpec.ofChange capRetypePlacesWrong)

/-- 'multikernellaw11.CapExact': WHATEVER THE INPUT: true; the input reads as it did. -/
def capExactSpec : ChangeSpec := { name := "capExact", fn := fun _ => fun
  | [d1, d2, d3] => { results := [.lit (.bool true)], args := [d1, d2, d3] }
  | _ => none }
def capExactRow : OpenClaim := { program := "ytjfhdhplmibnfaa", sum := "ac83089a1ef86ef0174a2b8ecfd026ca8fe60646d8067f5a6e0549746e68e086", func := "multikernel/multikernellaw11.CapExact", spec := "capExact", apart := false }
def CapExactSaid : Prop := capExactRow.holds Try.pinned (OpenSpec.ofChange capExactSpec)

/-- ITS FALSE NEIGHBOUR: 'it returns false'. Refute it at one input. -/
def capExactWrong : ChangeSpec := { name := "capExact", fn := fun _ => fun
  | [d1, d2, d3] => { results := [.lit (.bool false)], args := [d1, d2, d3] }
  | _ => none }
def CapExactWrongFalsely : Prop := capExactRow.holds Try.pinned (OpenSpec.ofChange capExactWrong)

/-- 'multikernellaw11.CapCoexist': WHATEVER THE INPUT: true; the input reads as it did. -/
def capCoexistSpec : ChangeSpec := { name := "capCoexist", fn := fun _ => fun
  | [d1, d2, d3, d4, d5, d6, d7, d8, d9, d10, d11] => { results := [.lit (.bool true)], args := [d1, d2, d3, d4, d5, d6, d7, d8, d9, d10, d11] }
  | _ => none }
def capCoexistRow : OpenClaim := { program := "ytjfhdhplmibnfaa", sum := "ac83089a1ef86ef0174a2b8ecfd026ca8fe60646d8067f5a6e0549746e68e086", func := "multikernel/multikernellaw11.CapCoexist", spec := "capCoexist", apart := false }
def CapCoexistSaid : Prop := capCoexistRow.holds Try.pinned (OpenSpec.ofChange capCoexistSpec)

/-- ITS FALSE NEIGHBOUR: 'it returns false'. Refute it at one input. -/
def capCoexistWrong : ChangeSpec := { name := "capCoexist", fn := fun _ => fun
  | [d1, d2, d3, d4, d5, d6, d7, d8, d9, d10, d11] => { results := [.lit (.bool false)], args := [d1, d2, d3, d4, d5, d6, d7, d8, d9, d10, d11] }
  | _ => none }
def CapCoexistWrongFalsely : Prop := capCoexistRow.holds Try.pinned (OpenSpec.ofChange capCoexistWrong)

/-- 'multikernellaw11.CapCodecExact': WHATEVER THE INPUT: true; the input reads as it did. -/
def capCodecExactSpec : ChangeSpec := { name := "capCodecExact", fn := fun _ => fun
  | [d1, d2] => { results := [.lit (.bool true)], args := [d1, d2] }
  | _ => none }
def capCodecExactRow : OpenClaim := { program := "ytjfhdhplmibnfaa", sum := "ac83089a1ef86ef0174a2b8ecfd026ca8fe60646d8067f5a6e0549746e68e086", func := "multikernel/multikernellaw11.CapCodecExact", spec := "capCodecExact", apart := false }
def CapCodecExactSaid : Prop := capCodecExactRow.holds Try.pinned (OpenSpec.ofChange capCodecExactSpec)

/-- ITS FALSE NEIGHBOUR: 'it returns false'. Refute it at one input. -/
def capCodecExactWrong : ChangeSpec := { name := "capCodecExact", fn := fun _ => fun
  | [d1, d2] => { results := [.lit (.bool false)], args := [d1, d2] }
  | _ => none }
def CapCodecExactWrongFalsely : Prop := capCodecExactRow.holds Try.pinned (OpenSpec.ofChange capCodecExactWrong)

/-- 'multikernellaw11.CapRoundTrip': WHATEVER THE INPUT: true; the input reads as it did. -/
def capRoundTripSpec : ChangeSpec := { name := "capRoundTrip", fn := fun _ => fun
  | [d1, d2, d3, d4, d5, d6] => { results := [.lit (.bool true)], args := [d1, d2, d3, d4, d5, d6] }
  | _ => none }
def capRoundTripRow : OpenClaim := { program := "ytjfhdhplmibnfaa", sum := "ac83089a1ef86ef0174a2b8ecfd026ca8fe60646d8067f5a6e0549746e68e086", func := "multikernel/multikernellaw11.CapRoundTrip", spec := "capRoundTrip", apart := false }
def CapRoundTripSaid : Prop := capRoundTripRow.holds Try.pinned (OpenSpec.ofChange capRoundTripSpec)

/-- ITS FALSE NEIGHBOUR: 'it returns false'. Refute it at one input. -/
def capRoundTripWrong : ChangeSpec := { name := "capRoundTrip", fn := fun _ => fun
  | [d1, d2, d3, d4, d5, d6] => { results := [.lit (.bool false)], args := [d1, d2, d3, d4, d5, d6] }
  | _ => none }
def CapRoundTripWrongFalsely : Prop := capRoundTripRow.holds Try.pinned (OpenSpec.ofChange capRoundTripWrong)

/-- 'multikernellaw12.NodeChildExact': WHATEVER THE INPUT: true; the input reads as it did. -/
def nodeChildExactSpec : ChangeSpec := { name := "nodeChildExact", fn := fun _ => fun
  | [d1, d2, d3] => { results := [.lit (.bool true)], args := [d1, d2, d3] }
  | _ => none }
def nodeChildExactRow : OpenClaim := { program := "ytjfhdhplmibnfaa", sum := "ac83089a1ef86ef0174a2b8ecfd026ca8fe60646d8067f5a6e0549746e68e086", func := "multikernel/multikernellaw12.NodeChildExact", spec := "nodeChildExact", apart := false }
def NodeChildExactSaid : Prop := nodeChildExactRow.holds Try.pinned (OpenSpec.ofChange nodeChildExactSpec)

/-- ITS FALSE NEIGHBOUR: 'it returns false'. Refute it at one input. -/
def nodeChildExactWrong : ChangeSpec := { name := "nodeChildExact", fn := fun _ => fun
  | [d1, d2, d3] => { results := [.lit (.bool false)], args := [d1, d2, d3] }
  | _ => none }
def NodeChildExactWrongFalsely : Prop := nodeChildExactRow.holds Try.pinned (OpenSpec.ofChange nodeChildExactWrong)

/-- 'multikernellaw12.NodeLineage': WHATEVER THE INPUT: true; the input reads as it did. -/
def nodeLineageSpec : ChangeSpec := { name := "nodeLineage", fn := fun _ => fun
  | [d1, d2, d3, d4, d5, d6] => { results := [.lit (.bool true)], args := [d1, d2, d3, d4, d5, d6] }
  | _ => none }
def nodeLineageRow : OpenClaim := { program := "ytjfhdhplmibnfaa", sum := "ac83089a1ef86ef0174a2b8ecfd026ca8fe60646d8067f5a6e0549746e68e086", func := "multikernel/multikernellaw12.NodeLineage", spec := "nodeLineage", apart := false }
def NodeLineageSaid : Prop := nodeLineageRow.holds Try.pinned (OpenSpec.ofChange nodeLineageSpec)

/-- ITS FALSE NEIGHBOUR: 'it returns false'. Refute it at one input. -/
def nodeLineageWrong : ChangeSpec := { name := "nodeLineage", fn := fun _ => fun
  | [d1, d2, d3, d4, d5, d6] => { results := [.lit (.bool false)], args := [d1, d2, d3, d4, d5, d6] }
  | _ => none }
def NodeLineageWrongFalsely : Prop := nodeLineageRow.holds Try.pinned (OpenSpec.ofChange nodeLineageWrong)

/-- 'multikernellaw12.NodeDepth': WHATEVER THE INPUT: true; the input reads as it did. -/
def nodeDepthSpec : ChangeSpec := { name := "nodeDepth", fn := fun _ => fun
  | [d1, d2] => { results := [.lit (.bool true)], args := [d1, d2] }
  | _ => none }
def nodeDepthRow : OpenClaim := { program := "ytjfhdhplmibnfaa", sum := "ac83089a1ef86ef0174a2b8ecfd026ca8fe60646d8067f5a6e0549746e68e086", func := "multikernel/multikernellaw12.NodeDepth", spec := "nodeDepth", apart := false }
def NodeDepthSaid : Prop := nodeDepthRow.holds Try.pinned (OpenSpec.ofChange nodeDepthSpec)

/-- ITS FALSE NEIGHBOUR: 'it returns false'. Refute it at one input. -/
def nodeDepthWrong : ChangeSpec := { name := "nodeDepth", fn := fun _ => fun
  | [d1, d2] => { results := [.lit (.bool false)], args := [d1, d2] }
  | _ => none }
def NodeDepthWrongFalsely : Prop := nodeDepthRow.holds Try.pinned (OpenSpec.ofChange nodeDepthWrong)

/-- 'multikernellaw12.NodeParent': WHATEVER THE INPUT: true; the input reads as it did. -/
def nodeParentSpec : ChangeSpec := { name := "nodeParent", fn := fun _ => fun
  | [d1, d2, d3, d4, d5] => { results := [.lit (.bool true)], args := [d1, d2, d3, d4, d5] }
  | _ => none }
def nodeParentRow : OpenClaim := { program := "ytjfhdhplmibnfaa", sum := "ac83089a1ef86ef0174a2b8ecfd026ca8fe60646d8067f5a6e0549746e68e086", func := "multikernel/multikernellaw12.NodeParent", spec := "nodeParent", unfollowed := true, recurses := true, apart := false }
def NodeParentSaid : Prop := nodeParentRow.holds Try.pinned (OpenSpec.ofChange nodeParentSpec)

/-- ITS FALSE NEIGHBOUR: 'it returns false'. Refute it at one input. -/
def nodeParentWrong : ChangeSpec := { name := "nodeParent", fn := fun _ => fun
  | [d1, d2, d3, d4, d5] => { results := [.lit (.bool false)], args := [d1, d2, d3, d4, d5] }
  | _ => none }
def NodeParentWrongFalsely : Prop := nodeParentRow.holds Try.pinned (OpenSpec.ofChange nodeParentWrong)

/-- 'multikernellaw12.NodeOrder': WHATEVER THE INPUT: true; the input reads as it did. -/
def nodeOrderSpec : ChangeSpec := { name := "nodeOrder", fn := fun _ => fun
  | [d1, d2, d3] => { results := [.lit (.bool true)], args := [d1, d2, d3] }
  | _ => none }
def nodeOrderRow : OpenClaim := { program := "ytjfhdhplmibnfaa", sum := "ac83089a1ef86ef0174a2b8ecfd026ca8fe60646d8067f5a6e0549746e68e086", func := "multikernel/multikernellaw12.NodeOrder", spec := "nodeOrder", apart := false }
def NodeOrderSaid : Prop := nodeOrderRow.holds Try.pinned (OpenSpec.ofChange nodeOrderSpec)

/-- ITS FALSE NEIGHBOUR: 'it returns false'. Refute it at one input. -/
def nodeOrderWrong : ChangeSpec := { name := "nodeOrder", fn := fun _ => fun
  | [d1, d2, d3] => { results := [.lit (.bool false)], args := [d1, d2, d3] }
  | _ => none }
def NodeOrderWrongFalsely : Prop := nodeOrderRow.holds Try.pinned (OpenSpec.ofChange nodeOrderWrong)

/-- 'multikernellaw12.NodeExact': WHATEVER THE INPUT: true; the input reads as it did. -/
def nodeExactSpec : ChangeSpec := { name := "nodeExact", fn := fun _ => fun
  | [d1, d2, d3, d4, d5] => { results := [.lit (.bool true)], args := [d1, d2, d3, d4, d5] }
  | _ => none }
def nodeExactRow : OpenClaim := { program := "ytjfhdhplmibnfaa", sum := "ac83089a1ef86ef0174a2b8ecfd026ca8fe60646d8067f5a6e0549746e68e086", func := "multikernel/multikernellaw12.NodeExact", spec := "nodeExact", unfollowed := true, recurses := true, apart := false }
def NodeExactSaid : Prop := nodeExactRow.holds Try.pinned (OpenSpec.ofChange nodeExactSpec)

/-- ITS FALSE NEIGHBOUR: 'it returns false'. Refute it at one input. -/
def nodeExactWrong : ChangeSpec := { name := "nodeExact", fn := fun _ => fun
  | [d1, d2, d3, d4, d5] => { results := [.lit (.bool false)], args := [d1, d2, d3, d4, d5] }
  | _ => none }
def NodeExactWrongFalsely : Prop := nodeExactRow.holds Try.pinned (OpenSpec.ofChange nodeExactWrong)

/-- 'multikernellaw12.NodeCodecExact': WHATEVER THE INPUT: true; the input reads as it did. -/
def nodeCodecExactSpec : ChangeSpec := { name := "nodeCodecExact", fn := fun _ => fun
  | [d1, d2] => { results := [.lit (.bool true)], args := [d1, d2] }
  | _ => none }
def nodeCodecExactRow : OpenClaim := { program := "ytjfhdhplmibnfaa", sum := "ac83089a1ef86ef0174a2b8ecfd026ca8fe60646d8067f5a6e0549746e68e086", func := "multikernel/multikernellaw12.NodeCodecExact", spec := "nodeCodecExact", apart := false }
def NodeCodecExactSaid : Prop := nodeCodecExactRow.holds Try.pinned (OpenSpec.ofChange nodeCodecExactSpec)

/-- ITS FALSE NEIGHBOUR: 'it returns false'. Refute it at one input. -/
def nodeCodecExactWrong : ChangeSpec := { name := "nodeCodecExact", fn := fun _ => fun
  | [d1, d2] => { results := [.lit (.bool false)], args := [d1, d2] }
  | _ => none }
def NodeCodecExactWrongFalsely : Prop := nodeCodecExactRow.holds Try.pinned (OpenSpec.ofChange nodeCodecExactWrong)

/-- 'multikernellaw12.NodeRoundTrip': WHATEVER THE INPUT: true; the input reads as it did. -/
def nodeRoundTripSpec : ChangeSpec := { name := "nodeRoundTrip", fn := fun _ => fun
  | [d1, d2, d3, d4, d5, d6, d7, d8] => { results := [.lit (.bool true)], args := [d1, d2, d3, d4, d5, d6, d7, d8] }
  | _ => none }
def nodeRoundTripRow : OpenClaim := { program := "ytjfhdhplmibnfaa", sum := "ac83089a1ef86ef0174a2b8ecfd026ca8fe60646d8067f5a6e0549746e68e086", func := "multikernel/multikernellaw12.NodeRoundTrip", spec := "nodeRoundTrip", apart := false }
def NodeRoundTripSaid : Prop := nodeRoundTripRow.holds Try.pinned (OpenSpec.ofChange nodeRoundTripSpec)

/-- ITS FALSE NEIGHBOUR: 'it returns false'. Refute it at one input. -/
def nodeRoundTripWrong : ChangeSpec := { name := "nodeRoundTrip", fn := fun _ => fun
  | [d1, d2, d3, d4, d5, d6, d7, d8] => { results := [.lit (.bool false)], args := [d1, d2, d3, d4, d5, d6, d7, d8] }
  | _ => none }
def NodeRoundTripWrongFalsely : Prop := nodeRoundTripRow.holds Try.pinned (OpenSpec.ofChange nodeRoundTripWrong)

/- THE SECOND FORM. 'bulk': how many values and letters a reading holds, each counted each time it is reached (what is shared counts as often as it is met; a slice's spare places count too). A statement '..UptoSaid' is the law's where the arguments, and the package variables that the reading takes, are together of bulk at most 1048576: NARROWER than '..Said'. Prove '..Said' where nothing that the law and all that it calls make is longer than what came in: it says more and counts as full. Else prove '..UptoSaid'. A law counts once. -/
mutual
def uptoBulk {H : Type} : DataW H → Nat
  | .lit (.string bytes) => bytes.length + 1
  | .lit _ => 1
  | .nil => 1
  | .ptr d => uptoBulk d + 1
  | .slice elems spare => uptoBulkAll elems + uptoBulkAll spare + 1
  | .agg parts => uptoBulkAll parts + 1
  | .iface _ d => uptoBulk d + 1
  | .map entries => uptoBulkEntries entries + 1
  | .held _ => 1
def uptoBulkAll {H : Type} : List (DataW H) → Nat
  | [] => 0
  | d :: r => uptoBulk d + uptoBulkAll r
def uptoBulkEntries {H : Type} : List (Lit × DataW H) → Nat
  | [] => 0
  | x :: r => uptoBulkEntry x + uptoBulkEntries r
def uptoBulkEntry {H : Type} : Lit × DataW H → Nat
  | (.string bytes, d) => bytes.length + uptoBulk d + 1
  | (_, d) => uptoBulk d + 1
 end
def uptoSmall : (H : Type) → List (DataW H) → Bool := fun _ ds => decide (uptoBulkAll ds ≤ 1048576)
def OpenSpec.upto (s : _root_.Go.ChangeSpec) : _root_.Go.OpenSpec := { _root_.Go.OpenSpec.ofChange s with cond := some uptoSmall }

/-- 'multikernellaw11.CapRetypeExact', WHERE WHAT IT READS IS OF BULK AT MOST 1048576: true; the input reads as it did. -/
def capRetypeExactUptoRow : OpenClaim := { program := "ytjfhdhplmibnfaa", sum := "ac83089a1ef86ef0174a2b8ecfd026ca8fe60646d8067f5a6e0549746e68e086", func := "multikernel/multikernellaw11.CapRetypeExact", spec := "capRetypeExact", apart := false, narrowed := true }
def CapRetypeExactUptoSaid : Prop := capRetypeExactUptoRow.holds Try.pinned (OpenSpec.upto capRetypeExactSpec)

/-- 'multikernellaw11.CapRetypeSplits', WHERE WHAT IT READS IS OF BULK AT MOST 1048576: true; the input reads as it did. -/
def capRetypeSplitsUptoRow : OpenClaim := { program := "ytjfhdhplmibnfaa", sum := "ac83089a1ef86ef0174a2b8ecfd026ca8fe60646d8067f5a6e0549746e68e086", func := "multikernel/multikernellaw11.CapRetypeSplits", spec := "capRetypeSplits", apart := false, narrowed := true }
def CapRetypeSplitsUptoSaid : Prop := capRetypeSplitsUptoRow.holds Try.pinned (OpenSpec.upto capRetypeSplitsSpec)

/-- 'multikernellaw11.CapDevice', WHERE WHAT IT READS IS OF BULK AT MOST 1048576: true; the input reads as it did. -/
def capDeviceUptoRow : OpenClaim := { program := "ytjfhdhplmibnfaa", sum := "ac83089a1ef86ef0174a2b8ecfd026ca8fe60646d8067f5a6e0549746e68e086", func := "multikernel/multikernellaw11.CapDevice", spec := "capDevice", apart := false, narrowed := true }
def CapDeviceUptoSaid : Prop := capDeviceUptoRow.holds Try.pinned (OpenSpec.upto capDeviceSpec)

/-- 'multikernellaw11.CapAttenuate', WHERE WHAT IT READS IS OF BULK AT MOST 1048576: true; the input reads as it did. -/
def capAttenuateUptoRow : OpenClaim := { program := "ytjfhdhplmibnfaa", sum := "ac83089a1ef86ef0174a2b8ecfd026ca8fe60646d8067f5a6e0549746e68e086", func := "multikernel/multikernellaw11.CapAttenuate", spec := "capAttenuate", apart := false, narrowed := true }
def CapAttenuateUptoSaid : Prop := capAttenuateUptoRow.holds Try.pinned (OpenSpec.upto capAttenuateSpec)

/-- 'multikernellaw11.CapRetypePlaces', WHERE WHAT IT READS IS OF BULK AT MOST 1048576: true; the input reads as it did. -/
def capRetypePlacesUptoRow : OpenClaim := { program := "ytjfhdhplmibnfaa", sum := "ac83089a1ef86ef0174a2b8ecfd026ca8fe60646d8067f5a6e0549746e68e086", func := "multikernel/multikernellaw11.CapRetypePlaces", spec := "capRetypePlaces", apart := false, narrowed := true }
def CapRetypePlacesUptoSaid : Prop := capRetypePlacesUptoRow.holds Try.pinned (OpenSpec.upto capRetypePlacesSpec)

/-- 'multikernellaw11.CapExact', WHERE WHAT IT READS IS OF BULK AT MOST 1048576: true; the input reads as it did. -/
def capExactUptoRow : OpenClaim := { program := "ytjfhdhplmibnfaa", sum := "ac83089a1ef86ef0174a2b8ecfd026ca8fe60646d8067f5a6e0549746e68e086", func := "multikernel/multikernellaw11.CapExact", spec := "capExact", apart := false, narrowed := true }
def CapExactUptoSaid : Prop := capExactUptoRow.holds Try.pinned (OpenSpec.upto capExactSpec)

/-- 'multikernellaw11.CapCoexist', WHERE WHAT IT READS IS OF BULK AT MOST 1048576: true; the input reads as it did. -/
def capCoexistUptoRow : OpenClaim := { program := "ytjfhdhplmibnfaa", sum := "ac83089a1ef86ef0174a2b8ecfd026ca8fe60646d8067f5a6e0549746e68e086", func := "multikernel/multikernellaw11.CapCoexist", spec := "capCoexist", apart := false, narrowed := true }
def CapCoexistUptoSaid : Prop := capCoexistUptoRow.holds Try.pinned (OpenSpec.upto capCoexistSpec)

/-- 'multikernellaw11.CapCodecExact', WHERE WHAT IT READS IS OF BULK AT MOST 1048576: true; the input reads as it did. -/
def capCodecExactUptoRow : OpenClaim := { program := "ytjfhdhplmibnfaa", sum := "ac83089a1ef86ef0174a2b8ecfd026ca8fe60646d8067f5a6e0549746e68e086", func := "multikernel/multikernellaw11.CapCodecExact", spec := "capCodecExact", apart := false, narrowed := true }
def CapCodecExactUptoSaid : Prop := capCodecExactUptoRow.holds Try.pinned (OpenSpec.upto capCodecExactSpec)

/-- 'multikernellaw11.CapRoundTrip', WHERE WHAT IT READS IS OF BULK AT MOST 1048576: true; the input reads as it did. -/
def capRoundTripUptoRow : OpenClaim := { program := "ytjfhdhplmibnfaa", sum := "ac83089a1ef86ef0174a2b8ecfd026ca8fe60646d8067f5a6e0549746e68e086", func := "multikernel/multikernellaw11.CapRoundTrip", spec := "capRoundTrip", apart := false, narrowed := true }
def CapRoundTripUptoSaid : Prop := capRoundTripUptoRow.holds Try.pinned (OpenSpec.upto capRoundTripSpec)

/-- 'multikernellaw12.NodeChildExact', WHERE WHAT IT READS IS OF BULK AT MOST 1048576: true; the input reads as it did. -/
def nodeChildExactUptoRow : OpenClaim := { program := "ytjfhdhplmibnfaa", sum := "ac83089a1ef86ef0174a2b8ecfd026ca8fe60646d8067f5a6e0549746e68e086", func := "multikernel/multikernellaw12.NodeChildExact", spec := "nodeChildExact", apart := false, narrowed := true }
def NodeChildExactUptoSaid : Prop := nodeChildExactUptoRow.holds Try.pinned (OpenSpec.upto nodeChildExactSpec)

/-- 'multikernellaw12.NodeLineage', WHERE WHAT IT READS IS OF BULK AT MOST 1048576: true; the input reads as it did. -/
def nodeLineageUptoRow : OpenClaim := { program := "ytjfhdhplmibnfaa", sum := "ac83089a1ef86ef0174a2b8ecfd026ca8fe60646d8067f5a6e0549746e68e086", func := "multikernel/multikernellaw12.NodeLineage", spec := "nodeLineage", apart := false, narrowed := true }
def NodeLineageUptoSaid : Prop := nodeLineageUptoRow.holds Try.pinned (OpenSpec.upto nodeLineageSpec)

/-- 'multikernellaw12.NodeDepth', WHERE WHAT IT READS IS OF BULK AT MOST 1048576: true; the input reads as it did. -/
def nodeDepthUptoRow : OpenClaim := { program := "ytjfhdhplmibnfaa", sum := "ac83089a1ef86ef0174a2b8ecfd026ca8fe60646d8067f5a6e0549746e68e086", func := "multikernel/multikernellaw12.NodeDepth", spec := "nodeDepth", apart := false, narrowed := true }
def NodeDepthUptoSaid : Prop := nodeDepthUptoRow.holds Try.pinned (OpenSpec.upto nodeDepthSpec)

/-- 'multikernellaw12.NodeParent', WHERE WHAT IT READS IS OF BULK AT MOST 1048576: true; the input reads as it did. -/
def nodeParentUptoRow : OpenClaim := { program := "ytjfhdhplmibnfaa", sum := "ac83089a1ef86ef0174a2b8ecfd026ca8fe60646d8067f5a6e0549746e68e086", func := "multikernel/multikernellaw12.NodeParent", spec := "nodeParent", unfollowed := true, recurses := true, apart := false, narrowed := true }
def NodeParentUptoSaid : Prop := nodeParentUptoRow.holds Try.pinned (OpenSpec.upto nodeParentSpec)

/-- 'multikernellaw12.NodeOrder', WHERE WHAT IT READS IS OF BULK AT MOST 1048576: true; the input reads as it did. -/
def nodeOrderUptoRow : OpenClaim := { program := "ytjfhdhplmibnfaa", sum := "ac83089a1ef86ef0174a2b8ecfd026ca8fe60646d8067f5a6e0549746e68e086", func := "multikernel/multikernellaw12.NodeOrder", spec := "nodeOrder", apart := false, narrowed := true }
def NodeOrderUptoSaid : Prop := nodeOrderUptoRow.holds Try.pinned (OpenSpec.upto nodeOrderSpec)

/-- 'multikernellaw12.NodeExact', WHERE WHAT IT READS IS OF BULK AT MOST 1048576: true; the input reads as it did. -/
def nodeExactUptoRow : OpenClaim := { program := "ytjfhdhplmibnfaa", sum := "ac83089a1ef86ef0174a2b8ecfd026ca8fe60646d8067f5a6e0549746e68e086", func := "multikernel/multikernellaw12.NodeExact", spec := "nodeExact", unfollowed := true, recurses := true, apart := false, narrowed := true }
def NodeExactUptoSaid : Prop := nodeExactUptoRow.holds Try.pinned (OpenSpec.upto nodeExactSpec)

/-- 'multikernellaw12.NodeCodecExact', WHERE WHAT IT READS IS OF BULK AT MOST 1048576: true; the input reads as it did. -/
def nodeCodecExactUptoRow : OpenClaim := { program := "ytjfhdhplmibnfaa", sum := "ac83089a1ef86ef0174a2b8ecfd026ca8fe60646d8067f5a6e0549746e68e086", func := "multikernel/multikernellaw12.NodeCodecExact", spec := "nodeCodecExact", apart := false, narrowed := true }
def NodeCodecExactUptoSaid : Prop := nodeCodecExactUptoRow.holds Try.pinned (OpenSpec.upto nodeCodecExactSpec)

/-- 'multikernellaw12.NodeRoundTrip', WHERE WHAT IT READS IS OF BULK AT MOST 1048576: true; the input reads as it did. -/
def nodeRoundTripUptoRow : OpenClaim := { program := "ytjfhdhplmibnfaa", sum := "ac83089a1ef86ef0174a2b8ecfd026ca8fe60646d8067f5a6e0549746e68e086", func := "multikernel/multikernellaw12.NodeRoundTrip", spec := "nodeRoundTrip", apart := false, narrowed := true }
def NodeRoundTripUptoSaid : Prop := nodeRoundTripUptoRow.holds Try.pinned (OpenSpec.upto nodeRoundTripSpec)

end Rows
end Go.Proofs.Ytjfhdhplmibnfaa
