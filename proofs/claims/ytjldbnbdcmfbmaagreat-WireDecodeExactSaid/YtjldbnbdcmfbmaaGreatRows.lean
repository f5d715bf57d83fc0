/-
  No cell of these rows narrows 'for every input' (looked for: loops, veiled, ifaces, maps, wideKeys, modest, calm, conditions, laid).
  DERIVED. THE GIVEN ROWS OF THIS SEAT. 5 by the template 'for every input the law returns true; each argument reads behind the call as it read before'; 0 by the template 'total and deterministic' (their statements: YtjldbnbdcmfbmaaGreatTotals.lean).
  GIVEN WITH THE SEED: the statements are not yours to turn. If you find one false, say at which input.
  Laid BY PROGRAM, IN A SANDBOX (cutbox-rows.mjs): the forced cells as the released guide's own fill.sh prints them over the translation 18dc3e978b453841… (all of the seat's roots in one cut). By AI agents, Wed Nov 11 2026. No macro, syntax, notation, axiom, sorry.
-/
import Derived.Test.YtjldbnbdcmfbmaaGreatChecked
import GoSem.Claim
import GoSem.ClaimJoined
import GoSem.ClaimMapViews
import Derived.JoinedTies
import Derived.KernelRfl
namespace Go.Proofs.YtjldbnbdcmfbmaaGreat
/- THE CELL 'sum', in the pinned program and in every row, IS THE sha256 OF THE DUMP (.gsa) THAT YtjldbnbdcmfbmaaGreatProg.lean LOADS. Nothing in Lean hashes anything: it is a label: what it is worth is what the hold of that sum in a sandbox is worth. -/
noncomputable def Tryz.pinned : Pinned := { name := "ytjldbnbdcmfbmaagreat", sum := "18dc3e978b45384178bd4dce0e1d1e606bc5fec51b7baa5946d3a660da2aed8f", checked := Tryz.checked }
namespace Rows
def none {H : Type} : Left H := { results := [], args := [] }

/-- 'multikernellaw18.WireSpoilt': WHATEVER THE INPUT: true; the input reads as it did. -/
def wireSpoiltSpec : ChangeSpec := { name := "wireSpoilt", fn := fun _ => fun
  | [d1, d2, d3, d4, d5] => { results := [.lit (.bool true)], args := [d1, d2, d3, d4, d5] }
  | _ => none }
def wireSpoiltRow : OpenClaim := { program := "ytjldbnbdcmfbmaagreat", sum := "18dc3e978b45384178bd4dce0e1d1e606bc5fec51b7baa5946d3a660da2aed8f", func := "multikernel/multikernellaw18.WireSpoilt", spec := "wireSpoilt", unfollowed := true, recurses := true, apart := false }
def WireSpoiltSaid : Prop := wireSpoiltRow.holds Tryz.pinned (OpenSpec.ofChange wireSpoiltSpec)

/-- ITS FALSE NEIGHBOUR: 'it returns false'. Refute it at one input. -/
def wireSpoiltWrong : ChangeSpec := { name := "wireSpoilt", fn := fun _ => fun
  | [d1, d2, d3, d4, d5] => { results := [.lit (.bool false)], args := [d1, d2, d3, d4, d5] }
  | _ => none }
def WireSpoiltWrongFalsely : Prop := wireSpoiltRow.holds Tryz.pinned (OpenSpec.ofChange wireSpoiltWrong)

/-- 'multikernellaw18.WireDecodeExact': WHATEVER THE INPUT: true; the input reads as it did. -/
def wireDecodeExactSpec : ChangeSpec := { name := "wireDecodeExact", fn := fun _ => fun
  | [d1, d2, d3, d4, d5, d6] => { results := [.lit (.bool true)], args := [d1, d2, d3, d4, d5, d6] }
  | _ => none }
def wireDecodeExactRow : OpenClaim := { program := "ytjldbnbdcmfbmaagreat", sum := "18dc3e978b45384178bd4dce0e1d1e606bc5fec51b7baa5946d3a660da2aed8f", func := "multikernel/multikernellaw18.WireDecodeExact", spec := "wireDecodeExact", unfollowed := true, recurses := true, apart := false }
def WireDecodeExactSaid : Prop := wireDecodeExactRow.holds Tryz.pinned (OpenSpec.ofChange wireDecodeExactSpec)

/-- ITS FALSE NEIGHBOUR: 'it returns false'. Refute it at one input. -/
def wireDecodeExactWrong : ChangeSpec := { name := "wireDecodeExact", fn := fun _ => fun
  | [d1, d2, d3, d4, d5, d6] => { results := [.lit (.bool false)], args := [d1, d2, d3, d4, d5, d6] }
  | _ => none }
def WireDecodeExactWrongFalsely : Prop := wireDecodeExactRow.holds Tryz.pinned (OpenSpec.ofChange wireDecodeExactWrong)

/-- 'multikernellaw18.WireRoundTrip': WHATEVER THE INPUT: true; the input reads as it did. -/
def wireRoundTripSpec : ChangeSpec := { name := "wireRoundTrip", fn := fun _ => fun
  | [d1, d2, d3] => { results := [.lit (.bool true)], args := [d1, d2, d3] }
  | _ => none }
def wireRoundTripRow : OpenClaim := { program := "ytjldbnbdcmfbmaagreat", sum := "18dc3e978b45384178bd4dce0e1d1e606bc5fec51b7baa5946d3a660da2aed8f", func := "multikernel/multikernellaw18.WireRoundTrip", spec := "wireRoundTrip", unfollowed := true, recurses := true, apart := false }
def WireRoundTripSaid : Prop := wireRoundTripRow.holds Tryz.pinned (OpenSpec.ofChange wireRoundTripSpec)

/-- ITS FALSE NEIGHBOUR: 'it returns false'. Refute it at one input. -/
def wireRoundTripWrong : ChangeSpec := { name := "wireRoundTrip", fn := fun _ => fun
  | [d1, d2, d3] => { results := [.lit (.bool false)], args := [d1, d2, d3] }
  | _ => none }
def WireRoundTripWrongFalsely : Prop := wireRoundTripRow.holds Tryz.pinned (OpenSpec.ofChange wireRoundTripWrong)

/-- 'multikernellaw18.WireTorn': WHATEVER THE INPUT: true; the input reads as it did. -/
def wireTornSpec : ChangeSpec := { name := "wireTorn", fn := fun _ => fun
  | [d1, d2, d3, d4, d5] => { results := [.lit (.bool true)], args := [d1, d2, d3, d4, d5] }
  | _ => none }
def wireTornRow : OpenClaim := { program := "ytjldbnbdcmfbmaagreat", sum := "18dc3e978b45384178bd4dce0e1d1e606bc5fec51b7baa5946d3a660da2aed8f", func := "multikernel/multikernellaw18.WireTorn", spec := "wireTorn", unfollowed := true, recurses := true, apart := false }
def WireTornSaid : Prop := wireTornRow.holds Tryz.pinned (OpenSpec.ofChange wireTornSpec)

/-- ITS FALSE NEIGHBOUR: 'it returns false'. Refute it at one input. -/
def wireTornWrong : ChangeSpec := { name := "wireTorn", fn := fun _ => fun
  | [d1, d2, d3, d4, d5] => { results := [.lit (.bool false)], args := [d1, d2, d3, d4, d5] }
  | _ => none }
def WireTornWrongFalsely : Prop := wireTornRow.holds Tryz.pinned (OpenSpec.ofChange wireTornWrong)

/-- 'multikernellaw18.WireInjective': WHATEVER THE INPUT: true; the input reads as it did. -/
def wireInjectiveSpec : ChangeSpec := { name := "wireInjective", fn := fun _ => fun
  | [d1, d2, d3, d4, d5] => { results := [.lit (.bool true)], args := [d1, d2, d3, d4, d5] }
  | _ => none }
def wireInjectiveRow : OpenClaim := { program := "ytjldbnbdcmfbmaagreat", sum := "18dc3e978b45384178bd4dce0e1d1e606bc5fec51b7baa5946d3a660da2aed8f", func := "multikernel/multikernellaw18.WireInjective", spec := "wireInjective", unfollowed := true, recurses := true, apart := false }
def WireInjectiveSaid : Prop := wireInjectiveRow.holds Tryz.pinned (OpenSpec.ofChange wireInjectiveSpec)

/-- ITS FALSE NEIGHBOUR: 'it returns false'. Refute it at one input. -/
def wireInjectiveWrong : ChangeSpec := { name := "wireInjective", fn := fun _ => fun
  | [d1, d2, d3, d4, d5] => { results := [.lit (.bool false)], args := [d1, d2, d3, d4, d5] }
  | _ => none }
def WireInjectiveWrongFalsely : Prop := wireInjectiveRow.holds Tryz.pinned (OpenSpec.ofChange wireInjectiveWrong)

/- THE SECOND FORM. 'bulk': how many values and letters a reading holds, each counted each time it is reached (what is shared counts as often as it is met; a slice's spare places count too). A statement '..UptoSaid' is the law's where the arguments, and the package variables that the reading takes, are together of bulk at most 1048576: NARROWER than '..Said'. Prove '..Said' where nothing that the law and all that it calls make is longer than what came in: it says more and counts as full. Else prove '..UptoSaid'. A law counts once. -/
mutual
def uptoBulk {H : Type} : DataW H → Nat
  | .lit (.string bytes) => bytes.length + 1
  | .lit _ => 1
  | .nil => 1
  | .ptr d => uptoBulk d + 1
  | .slice elems spare => uptoBulkAll elems + uptoBulkAll spare + 1
  | .agg parts => uptoBulkAll parts + 1
  | .iface _ d => uptoBulk d + 1
  | .map entries => uptoBulkEntries entries + 1
  | .held _ => 1
def uptoBulkAll {H : Type} : List (DataW H) → Nat
  | [] => 0
  | d :: r => uptoBulk d + uptoBulkAll r
def uptoBulkEntries {H : Type} : List (Lit × DataW H) → Nat
  | [] => 0
  | x :: r => uptoBulkEntry x + uptoBulkEntries r
def uptoBulkEntry {H : Type} : Lit × DataW H → Nat
  | (.string bytes, d) => bytes.length + uptoBulk d + 1
  | (_, d) => uptoBulk d + 1
 end
def uptoSmall : (H : Type) → List (DataW H) → Bool := fun _ ds => decide (uptoBulkAll ds ≤ 1048576)
def OpenSpec.upto (s : _root_.Go.ChangeSpec) : _root_.Go.OpenSpec := { _root_.Go.OpenSpec.ofChange s with cond := some uptoSmall }

/-- 'multikernellaw18.WireSpoilt', WHERE WHAT IT READS IS OF BULK AT MOST 1048576: true; the input reads as it did. -/
def wireSpoiltUptoRow : OpenClaim := { program := "ytjldbnbdcmfbmaagreat", sum := "18dc3e978b45384178bd4dce0e1d1e606bc5fec51b7baa5946d3a660da2aed8f", func := "multikernel/multikernellaw18.WireSpoilt", spec := "wireSpoilt", unfollowed := true, recurses := true, apart := false, narrowed := true }
def WireSpoiltUptoSaid : Prop := wireSpoiltUptoRow.holds Tryz.pinned (OpenSpec.upto wireSpoiltSpec)

/-- 'multikernellaw18.WireDecodeExact', WHERE WHAT IT READS IS OF BULK AT MOST 1048576: true; the input reads as it did. -/
def wireDecodeExactUptoRow : OpenClaim := { program := "ytjldbnbdcmfbmaagreat", sum := "18dc3e978b45384178bd4dce0e1d1e606bc5fec51b7baa5946d3a660da2aed8f", func := "multikernel/multikernellaw18.WireDecodeExact", spec := "wireDecodeExact", unfollowed := true, recurses := true, apart := false, narrowed := true }
def WireDecodeExactUptoSaid : Prop := wireDecodeExactUptoRow.holds Tryz.pinned (OpenSpec.upto wireDecodeExactSpec)

/-- 'multikernellaw18.WireRoundTrip', WHERE WHAT IT READS IS OF BULK AT MOST 1048576: true; the input reads as it did. -/
def wireRoundTripUptoRow : OpenClaim := { program := "ytjldbnbdcmfbmaagreat", sum := "18dc3e978b45384178bd4dce0e1d1e606bc5fec51b7baa5946d3a660da2aed8f", func := "multikernel/multikernellaw18.WireRoundTrip", spec := "wireRoundTrip", unfollowed := true, recurses := true, apart := false, narrowed := true }
def WireRoundTripUptoSaid : Prop := wireRoundTripUptoRow.holds Tryz.pinned (OpenSpec.upto wireRoundTripSpec)

/-- 'multikernellaw18.WireTorn', WHERE WHAT IT READS IS OF BULK AT MOST 1048576: true; the input reads as it did. -/
def wireTornUptoRow : OpenClaim := { program := "ytjldbnbdcmfbmaagreat", sum := "18dc3e978b45384178bd4dce0e1d1e606bc5fec51b7baa5946d3a660da2aed8f", func := "multikernel/multikernellaw18.WireTorn", spec := "wireTorn", unfollowed := true, recurses := true, apart := false, narrowed := true }
def WireTornUptoSaid : Prop := wireTornUptoRow.holds Tryz.pinned (OpenSpec.upto wireTornSpec)

/-- 'multikernellaw18.WireInjective', WHERE WHAT IT READS IS OF BULK AT MOST 1048576: true; the input reads as it did. -/
def wireInjectiveUptoRow : OpenClaim := { program := "ytjldbnbdcmfbmaagreat", sum := "18dc3e978b45384178bd4dce0e1d1e606bc5fec51b7baa5946d3a660da2aed8f", func := "multikernel/multikernellaw18.WireInjective", spec := "wireInjective", unfollowed := true, recurses := true, apart := false, narrowed := true }
def WireInjectiveUptoSaid : Prop := wireInjectiveUptoRow.holds Tryz.pinned (OpenSpec.upto wireInjectiveSpec)

end Rows
end Go.Proofs.YtjldbnbdcmfbmaaGreat
