/-
  No cell of these rows narrows 'for every input' (looked for: loops, veiled, ifaces, maps, wideKeys, modest, calm, conditions, laid).
  DERIVED. THE GIVEN ROWS OF THIS SEAT. 4 by the template 'for every input the law returns true; each argument reads behind the call as it read before'; 0 by the template 'total and deterministic' (their statements: YtlgmnddelljbmaaGreatTotals.lean).
  GIVEN WITH THE SEED: the statements are not yours to turn. If you find one false, say at which input.
  Laid BY PROGRAM, IN A SANDBOX (cutbox-rows.mjs): the forced cells as the released guide's own fill.sh prints them over the translation 73ac3a334a78e7ca… (all of the seat's roots in one cut). By AI agents, Wed Nov 11 2026. No macro, syntax, notation, axiom, sorry.
-/
import Derived.Test.YtlgmnddelljbmaaGreatChecked
import GoSem.Claim
import GoSem.ClaimJoined
import GoSem.ClaimMapViews
import Derived.JoinedTies
import Derived.KernelRfl
namespace Go.Proofs.YtlgmnddelljbmaaGreat
/- THE CELL 'sum', in the pinned program and in every row, IS THE sha256 OF THE DUMP (.gsa) THAT YtlgmnddelljbmaaGreatProg.lean LOADS. Nothing in Lean hashes anything: it is a label: what it is worth is what the hold of that sum in a sandbox is worth. -/
noncomputable def Tryz.pinned : Pinned := { name := "ytlgmnddelljbmaagreat", sum := "73ac3a334a78e7ca81815127eca5ee6ad42f53263b0d93083d57a5a09eaae056", checked := Tryz.checked }
namespace Rows
def none {H : Type} : Left H := { results := [], args := [] }

/-- 'multikernellaw22.OwnerRevokes': WHATEVER THE INPUT: true; the input reads as it did. -/
def ownerRevokesSpec : ChangeSpec := { name := "ownerRevokes", fn := fun _ => fun
  | [d1, d2] => { results := [.lit (.bool true)], args := [d1, d2] }
  | _ => none }
def ownerRevokesRow : OpenClaim := { program := "ytlgmnddelljbmaagreat", sum := "73ac3a334a78e7ca81815127eca5ee6ad42f53263b0d93083d57a5a09eaae056", func := "multikernel/multikernellaw22.OwnerRevokes", spec := "ownerRevokes", inPlace := ["slices.overlaps[multikernel/api.Entry]"], unfollowed := true, recurses := true, apart := false }
def OwnerRevokesSaid : Prop := ownerRevokesRow.holds Tryz.pinned (OpenSpec.ofChange ownerRevokesSpec)

/-- ITS FALSE NEIGHBOUR: 'it returns false'. Refute it at one input. -/
def ownerRevokesWrong : ChangeSpec := { name := "ownerRevokes", fn := fun _ => fun
  | [d1, d2] => { results := [.lit (.bool false)], args := [d1, d2] }
  | _ => none }
def OwnerRevokesWrongFalsely : Prop := ownerRevokesRow.holds Tryz.pinned (OpenSpec.ofChange ownerRevokesWrong)

/-- 'multikernellaw22.OwnerRefused': WHATEVER THE INPUT: true; the input reads as it did. -/
def ownerRefusedSpec : ChangeSpec := { name := "ownerRefused", fn := fun _ => fun
  | [d1, d2, d3, d4, d5] => { results := [.lit (.bool true)], args := [d1, d2, d3, d4, d5] }
  | _ => none }
def ownerRefusedRow : OpenClaim := { program := "ytlgmnddelljbmaagreat", sum := "73ac3a334a78e7ca81815127eca5ee6ad42f53263b0d93083d57a5a09eaae056", func := "multikernel/multikernellaw22.OwnerRefused", spec := "ownerRefused", inPlace := ["slices.overlaps[multikernel/api.Entry]"], unfollowed := true, recurses := true, apart := false }
def OwnerRefusedSaid : Prop := ownerRefusedRow.holds Tryz.pinned (OpenSpec.ofChange ownerRefusedSpec)

/-- ITS FALSE NEIGHBOUR: 'it returns false'. Refute it at one input. -/
def ownerRefusedWrong : ChangeSpec := { name := "ownerRefused", fn := fun _ => fun
  | [d1, d2, d3, d4, d5] => { results := [.lit (.bool false)], args := [d1, d2, d3, d4, d5] }
  | _ => none }
def OwnerRefusedWrongFalsely : Prop := ownerRefusedRow.holds Tryz.pinned (OpenSpec.ofChange ownerRefusedWrong)

/-- 'multikernellaw22.OwnerInOrder': WHATEVER THE INPUT: true; the input reads as it did. -/
def ownerInOrderSpec : ChangeSpec := { name := "ownerInOrder", fn := fun _ => fun
  | [d] => { results := [.lit (.bool true)], args := [d] }
  | _ => none }
def ownerInOrderRow : OpenClaim := { program := "ytlgmnddelljbmaagreat", sum := "73ac3a334a78e7ca81815127eca5ee6ad42f53263b0d93083d57a5a09eaae056", func := "multikernel/multikernellaw22.OwnerInOrder", spec := "ownerInOrder", inPlace := ["slices.overlaps[multikernel/api.Entry]"], unfollowed := true, recurses := true, apart := false }
def OwnerInOrderSaid : Prop := ownerInOrderRow.holds Tryz.pinned (OpenSpec.ofChange ownerInOrderSpec)

/-- ITS FALSE NEIGHBOUR: 'it returns false'. Refute it at one input. -/
def ownerInOrderWrong : ChangeSpec := { name := "ownerInOrder", fn := fun _ => fun
  | [d] => { results := [.lit (.bool false)], args := [d] }
  | _ => none }
def OwnerInOrderWrongFalsely : Prop := ownerInOrderRow.holds Tryz.pinned (OpenSpec.ofChange ownerInOrderWrong)

/-- 'multikernellaw22.OwnerPlays': WHATEVER THE INPUT: true; the input reads as it did. -/
def ownerPlaysSpec : ChangeSpec := { name := "ownerPlays", fn := fun _ => fun
  | [d1, d2] => { results := [.lit (.bool true)], args := [d1, d2] }
  | _ => none }
def ownerPlaysRow : OpenClaim := { program := "ytlgmnddelljbmaagreat", sum := "73ac3a334a78e7ca81815127eca5ee6ad42f53263b0d93083d57a5a09eaae056", func := "multikernel/multikernellaw22.OwnerPlays", spec := "ownerPlays", inPlace := ["slices.overlaps[multikernel/api.Entry]"], unfollowed := true, recurses := true, apart := false }
def OwnerPlaysSaid : Prop := ownerPlaysRow.holds Tryz.pinned (OpenSpec.ofChange ownerPlaysSpec)

/-- ITS FALSE NEIGHBOUR: 'it returns false'. Refute it at one input. -/
def ownerPlaysWrong : ChangeSpec := { name := "ownerPlays", fn := fun _ => fun
  | [d1, d2] => { results := [.lit (.bool false)], args := [d1, d2] }
  | _ => none }
def OwnerPlaysWrongFalsely : Prop := ownerPlaysRow.holds Tryz.pinned (OpenSpec.ofChange ownerPlaysWrong)

/- THE SECOND FORM. 'bulk': how many values and letters a reading holds, each counted each time it is reached (what is shared counts as often as it is met; a slice's spare places count too). A statement '..UptoSaid' is the law's where the arguments, and the package variables that the reading takes, are together of bulk at most 1048576: NARROWER than '..Said'. Prove '..Said' where nothing that the law and all that it calls make is longer than what came in: it says more and counts as full. Else prove '..UptoSaid'. A law counts once. -/
mutual
def uptoBulk {H : Type} : DataW H → Nat
  | .lit (.string bytes) => bytes.length + 1
  | .lit _ => 1
  | .nil => 1
  | .ptr d => uptoBulk d + 1
  | .slice elems spare => uptoBulkAll elems + uptoBulkAll spare + 1
  | .agg parts => uptoBulkAll parts + 1
  | .iface _ d => uptoBulk d + 1
  | .map entries => uptoBulkEntries entries + 1
  | .held _ => 1
def uptoBulkAll {H : Type} : List (DataW H) → Nat
  | [] => 0
  | d :: r => uptoBulk d + uptoBulkAll r
def uptoBulkEntries {H : Type} : List (Lit × DataW H) → Nat
  | [] => 0
  | x :: r => uptoBulkEntry x + uptoBulkEntries r
def uptoBulkEntry {H : Type} : Lit × DataW H → Nat
  | (.string bytes, d) => bytes.length + uptoBulk d + 1
  | (_, d) => uptoBulk d + 1
 end
def uptoSmall : (H : Type) → List (DataW H) → Bool := fun _ ds => decide (uptoBulkAll ds ≤ 1048576)
def OpenSpec.upto (s : _root_.Go.ChangeSpec) : _root_.Go.OpenSpec := { _root_.Go.OpenSpec.ofChange s with cond := some uptoSmall }

/-- 'multikernellaw22.OwnerRevokes', WHERE WHAT IT READS IS OF BULK AT MOST 1048576: true; the input reads as it did. -/
def ownerRevokesUptoRow : OpenClaim := { program := "ytlgmnddelljbmaagreat", sum := "73ac3a334a78e7ca81815127eca5ee6ad42f53263b0d93083d57a5a09eaae056", func := "multikernel/multikernellaw22.OwnerRevokes", spec := "ownerRevokes", inPlace := ["slices.overlaps[multikernel/api.Entry]"], unfollowed := true, recurses := true, apart := false, narrowed := true }
def OwnerRevokesUptoSaid : Prop := ownerRevokesUptoRow.holds Tryz.pinned (OpenSpec.upto ownerRevokesSpec)

/-- 'multikernellaw22.OwnerRefused', WHERE WHAT IT READS IS OF BULK AT MOST 1048576: true; the input reads as it did. -/
def ownerRefusedUptoRow : OpenClaim := { program := "ytlgmnddelljbmaagreat", sum := "73ac3a334a78e7ca81815127eca5ee6ad42f53263b0d93083d57a5a09eaae056", func := "multikernel/multikernellaw22.OwnerRefused", spec := "ownerRefused", inPlace := ["slices.overlaps[multikernel/api.Entry]"], unfollowed := true, recurses := true, apart := false, narrowed := true }
def OwnerRefusedUptoSaid : Prop := ownerRefusedUptoRow.holds Tryz.pinned (OpenSpec.upto ownerRefusedSpec)

/-- 'multikernellaw22.OwnerInOrder', WHERE WHAT IT READS IS OF BULK AT MOST 1048576: true; the input reads as it did. -/
def ownerInOrderUptoRow : OpenClaim := { program := "ytlgmnddelljbmaagreat", sum := "73ac3a334a78e7ca81815127eca5ee6ad42f53263b0d93083d57a5a09eaae056", func := "multikernel/multikernellaw22.OwnerInOrder", spec := "ownerInOrder", inPlace := ["slices.overlaps[multikernel/api.Entry]"], unfollowed := true, recurses := true, apart := false, narrowed := true }
def OwnerInOrderUptoSaid : Prop := ownerInOrderUptoRow.holds Tryz.pinned (OpenSpec.upto ownerInOrderSpec)

/-- 'multikernellaw22.OwnerPlays', WHERE WHAT IT READS IS OF BULK AT MOST 1048576: true; the input reads as it did. -/
def ownerPlaysUptoRow : OpenClaim := { program := "ytlgmnddelljbmaagreat", sum := "73ac3a334a78e7ca81815127eca5ee6ad42f53263b0d93083d57a5a09eaae056", func := "multikernel/multikernellaw22.OwnerPlays", spec := "ownerPlays", inPlace := ["slices.overlaps[multikernel/api.Entry]"], unfollowed := true, recurses := true, apart := false, narrowed := true }
def OwnerPlaysUptoSaid : Prop := ownerPlaysUptoRow.holds Tryz.pinned (OpenSpec.upto ownerPlaysSpec)

end Rows
end Go.Proofs.YtlgmnddelljbmaaGreat
