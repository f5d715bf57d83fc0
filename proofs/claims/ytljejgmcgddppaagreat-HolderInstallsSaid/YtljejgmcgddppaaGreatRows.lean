/-
  No cell of these rows narrows 'for every input' (looked for: loops, veiled, ifaces, maps, wideKeys, modest, calm, conditions, laid).
  DERIVED. THE GIVEN ROWS OF THIS SEAT. 4 by the template 'for every input the law returns true; each argument reads behind the call as it read before'; 0 by the template 'total and deterministic' (their statements: YtljejgmcgddppaaGreatTotals.lean).
  GIVEN WITH THE SEED: the statements are not yours to turn. If you find one false, say at which input.
  Laid BY PROGRAM, IN A SANDBOX (cutbox-rows.mjs): the forced cells as the released guide's own fill.sh prints them over the translation 61ff17a84622a708… (all of the seat's roots in one cut). By AI agents, Wed Nov 11 2026. No macro, syntax, notation, axiom, sorry.
-/
import Derived.Test.YtljejgmcgddppaaGreatChecked
import GoSem.Claim
import GoSem.ClaimJoined
import GoSem.ClaimMapViews
import Derived.JoinedTies
import Derived.KernelRfl
namespace Go.Proofs.YtljejgmcgddppaaGreat
/- THE CELL 'sum', in the pinned program and in every row, IS THE sha256 OF THE DUMP (.gsa) THAT YtljejgmcgddppaaGreatProg.lean LOADS. Nothing in Lean hashes anything: it is a label: what it is worth is what the hold of that sum in a sandbox is worth. -/
noncomputable def Tryz.pinned : Pinned := { name := "ytljejgmcgddppaagreat", sum := "61ff17a84622a7082b6d7d471ee5de3b2731ffcc8d53b8d56cfa7c260e4b0801", checked := Tryz.checked }
namespace Rows
def none {H : Type} : Left H := { results := [], args := [] }

/-- 'multikernellaw23.HolderExact': WHATEVER THE INPUT: true; the input reads as it did. -/
def holderExactSpec : ChangeSpec := { name := "holderExact", fn := fun _ => fun
  | [d1, d2, d3, d4, d5, d6] => { results := [.lit (.bool true)], args := [d1, d2, d3, d4, d5, d6] }
  | _ => none }
def holderExactRow : OpenClaim := { program := "ytljejgmcgddppaagreat", sum := "61ff17a84622a7082b6d7d471ee5de3b2731ffcc8d53b8d56cfa7c260e4b0801", func := "multikernel/multikernellaw23.HolderExact", spec := "holderExact", inPlace := ["slices.overlaps[multikernel/api.Mark]"], unfollowed := true, recurses := true, apart := false }
def HolderExactSaid : Prop := holderExactRow.holds Tryz.pinned (OpenSpec.ofChange holderExactSpec)

/-- ITS FALSE NEIGHBOUR: 'it returns false'. Refute it at one input. -/
def holderExactWrong : ChangeSpec := { name := "holderExact", fn := fun _ => fun
  | [d1, d2, d3, d4, d5, d6] => { results := [.lit (.bool false)], args := [d1, d2, d3, d4, d5, d6] }
  | _ => none }
def HolderExactWrongFalsely : Prop := holderExactRow.holds Tryz.pinned (OpenSpec.ofChange holderExactWrong)

/-- 'multikernellaw23.HolderRaw': WHATEVER THE INPUT: true; the input reads as it did. -/
def holderRawSpec : ChangeSpec := { name := "holderRaw", fn := fun _ => fun
  | [d1, d2, d3, d4, d5] => { results := [.lit (.bool true)], args := [d1, d2, d3, d4, d5] }
  | _ => none }
def holderRawRow : OpenClaim := { program := "ytljejgmcgddppaagreat", sum := "61ff17a84622a7082b6d7d471ee5de3b2731ffcc8d53b8d56cfa7c260e4b0801", func := "multikernel/multikernellaw23.HolderRaw", spec := "holderRaw", inPlace := ["slices.overlaps[multikernel/api.Mark]"], unfollowed := true, recurses := true, apart := false }
def HolderRawSaid : Prop := holderRawRow.holds Tryz.pinned (OpenSpec.ofChange holderRawSpec)

/-- ITS FALSE NEIGHBOUR: 'it returns false'. Refute it at one input. -/
def holderRawWrong : ChangeSpec := { name := "holderRaw", fn := fun _ => fun
  | [d1, d2, d3, d4, d5] => { results := [.lit (.bool false)], args := [d1, d2, d3, d4, d5] }
  | _ => none }
def HolderRawWrongFalsely : Prop := holderRawRow.holds Tryz.pinned (OpenSpec.ofChange holderRawWrong)

/-- 'multikernellaw23.HolderRevokes': WHATEVER THE INPUT: true; the input reads as it did. -/
def holderRevokesSpec : ChangeSpec := { name := "holderRevokes", fn := fun _ => fun
  | [d1, d2, d3] => { results := [.lit (.bool true)], args := [d1, d2, d3] }
  | _ => none }
def holderRevokesRow : OpenClaim := { program := "ytljejgmcgddppaagreat", sum := "61ff17a84622a7082b6d7d471ee5de3b2731ffcc8d53b8d56cfa7c260e4b0801", func := "multikernel/multikernellaw23.HolderRevokes", spec := "holderRevokes", inPlace := ["slices.overlaps[multikernel/api.Mark]"], unfollowed := true, recurses := true, apart := false }
def HolderRevokesSaid : Prop := holderRevokesRow.holds Tryz.pinned (OpenSpec.ofChange holderRevokesSpec)

/-- ITS FALSE NEIGHBOUR: 'it returns false'. Refute it at one input. -/
def holderRevokesWrong : ChangeSpec := { name := "holderRevokes", fn := fun _ => fun
  | [d1, d2, d3] => { results := [.lit (.bool false)], args := [d1, d2, d3] }
  | _ => none }
def HolderRevokesWrongFalsely : Prop := holderRevokesRow.holds Tryz.pinned (OpenSpec.ofChange holderRevokesWrong)

/-- 'multikernellaw23.HolderInstalls': WHATEVER THE INPUT: true; the input reads as it did. -/
def holderInstallsSpec : ChangeSpec := { name := "holderInstalls", fn := fun _ => fun
  | [d1, d2, d3, d4, d5] => { results := [.lit (.bool true)], args := [d1, d2, d3, d4, d5] }
  | _ => none }
def holderInstallsRow : OpenClaim := { program := "ytljejgmcgddppaagreat", sum := "61ff17a84622a7082b6d7d471ee5de3b2731ffcc8d53b8d56cfa7c260e4b0801", func := "multikernel/multikernellaw23.HolderInstalls", spec := "holderInstalls", inPlace := ["slices.overlaps[multikernel/api.Mark]"], unfollowed := true, recurses := true, apart := false }
def HolderInstallsSaid : Prop := holderInstallsRow.holds Tryz.pinned (OpenSpec.ofChange holderInstallsSpec)

/-- ITS FALSE NEIGHBOUR: 'it returns false'. Refute it at one input. -/
def holderInstallsWrong : ChangeSpec := { name := "holderInstalls", fn := fun _ => fun
  | [d1, d2, d3, d4, d5] => { results := [.lit (.bool false)], args := [d1, d2, d3, d4, d5] }
  | _ => none }
def HolderInstallsWrongFalsely : Prop := holderInstallsRow.holds Tryz.pinned (OpenSpec.ofChange holderInstallsWrong)

/- THE SECOND FORM. 'bulk': how many values and letters a reading holds, each counted each time it is reached (what is shared counts as often as it is met; a slice's spare places count too). A statement '..UptoSaid' is the law's where the arguments, and the package variables that the reading takes, are together of bulk at most 1048576: NARROWER than '..Said'. Prove '..Said' where nothing that the law and all that it calls make is longer than what came in: it says more and counts as full. Else prove '..UptoSaid'. A law counts once. -/
mutual
def uptoBulk {H : Type} : DataW H → Nat
  | .lit (.string bytes) => bytes.length + 1
  | .lit _ => 1
  | .nil => 1
  | .ptr d => uptoBulk d + 1
  | .slice elems spare => uptoBulkAll elems + uptoBulkAll spare + 1
  | .agg parts => uptoBulkAll parts + 1
  | .iface _ d => uptoBulk d + 1
  | .map entries => uptoBulkEntries entries + 1
  | .held _ => 1
def uptoBulkAll {H : Type} : List (DataW H) → Nat
  | [] => 0
  | d :: r => uptoBulk d + uptoBulkAll r
def uptoBulkEntries {H : Type} : List (Lit × DataW H) → Nat
  | [] => 0
  | x :: r => uptoBulkEntry x + uptoBulkEntries r
def uptoBulkEntry {H : Type} : Lit × DataW H → Nat
  | (.string bytes, d) => bytes.length + uptoBulk d + 1
  | (_, d) => uptoBulk d + 1
 end
def uptoSmall : (H : Type) → List (DataW H) → Bool := fun _ ds => decide (uptoBulkAll ds ≤ 1048576)
def OpenSpec.upto (s : _root_.Go.ChangeSpec) : _root_.Go.OpenSpec := { _root_.Go.OpenSpec.ofChange s with cond := some uptoSmall }

/-- 'multikernellaw23.HolderExact', WHERE WHAT IT READS IS OF BULK AT MOST 1048576: true; the input reads as it did. -/
def holderExactUptoRow : OpenClaim := { program := "ytljejgmcgddppaagreat", sum := "61ff17a84622a7082b6d7d471ee5de3b2731ffcc8d53b8d56cfa7c260e4b0801", func := "multikernel/multikernellaw23.HolderExact", spec := "holderExact", inPlace := ["slices.overlaps[multikernel/api.Mark]"], unfollowed := true, recurses := true, apart := false, narrowed := true }
def HolderExactUptoSaid : Prop := holderExactUptoRow.holds Tryz.pinned (OpenSpec.upto holderExactSpec)

/-- 'multikernellaw23.HolderRaw', WHERE WHAT IT READS IS OF BULK AT MOST 1048576: true; the input reads as it did. -/
def holderRawUptoRow : OpenClaim := { program := "ytljejgmcgddppaagreat", sum := "61ff17a84622a7082b6d7d471ee5de3b2731ffcc8d53b8d56cfa7c260e4b0801", func := "multikernel/multikernellaw23.HolderRaw", spec := "holderRaw", inPlace := ["slices.overlaps[multikernel/api.Mark]"], unfollowed := true, recurses := true, apart := false, narrowed := true }
def HolderRawUptoSaid : Prop := holderRawUptoRow.holds Tryz.pinned (OpenSpec.upto holderRawSpec)

/-- 'multikernellaw23.HolderRevokes', WHERE WHAT IT READS IS OF BULK AT MOST 1048576: true; the input reads as it did. -/
def holderRevokesUptoRow : OpenClaim := { program := "ytljejgmcgddppaagreat", sum := "61ff17a84622a7082b6d7d471ee5de3b2731ffcc8d53b8d56cfa7c260e4b0801", func := "multikernel/multikernellaw23.HolderRevokes", spec := "holderRevokes", inPlace := ["slices.overlaps[multikernel/api.Mark]"], unfollowed := true, recurses := true, apart := false, narrowed := true }
def HolderRevokesUptoSaid : Prop := holderRevokesUptoRow.holds Tryz.pinned (OpenSpec.upto holderRevokesSpec)

/-- 'multikernellaw23.HolderInstalls', WHERE WHAT IT READS IS OF BULK AT MOST 1048576: true; the input reads as it did. -/
def holderInstallsUptoRow : OpenClaim := { program := "ytljejgmcgddppaagreat", sum := "61ff17a84622a7082b6d7d471ee5de3b2731ffcc8d53b8d56cfa7c260e4b0801", func := "multikernel/multikernellaw23.HolderInstalls", spec := "holderInstalls", inPlace := ["slices.overlaps[multikernel/api.Mark]"], unfollowed := true, recurses := true, apart := false, narrowed := true }
def HolderInstallsUptoSaid : Prop := holderInstallsUptoRow.holds Tryz.pinned (OpenSpec.upto holderInstallsSpec)

end Rows
end Go.Proofs.YtljejgmcgddppaaGreat
