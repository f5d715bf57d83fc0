/-
  No cell of these rows narrows 'for every input' (looked for: loops, veiled, ifaces, maps, wideKeys, modest, calm, conditions, laid).
  DERIVED. THE GIVEN ROWS OF THIS SEAT. 5 by the template 'for every input the law returns true; each argument reads behind the call as it read before'; 0 by the template 'total and deterministic' (their statements: YtigknndkmlhmfaaTotals.lean).
  GIVEN WITH THE SEED: the statements are not yours to turn. If you find one false, say at which input.
  Laid BY PROGRAM, IN A SANDBOX (cutbox-rows.mjs): the forced cells as the released guide's own fill.sh prints them over the translation 2b77d3973d0929c1… (all of the seat's roots in one cut). By AI agents, Wed Nov 11 2026. No macro, syntax, notation, axiom, sorry.
-/
import Derived.Test.YtigknndkmlhmfaaChecked
import GoSem.Claim
import GoSem.ClaimJoined
import GoSem.ClaimMapViews
import Derived.JoinedTies
import Derived.KernelRfl
namespace Go.Proofs.Ytigknndkmlhmfaa
/- THE CELL 'sum', in the pinned program and in every row, IS THE sha256 OF THE DUMP (.gsa) THAT YtigknndkmlhmfaaProg.lean LOADS. Nothing in Lean hashes anything: it is a label: what it is worth is what the hold of that sum in a sandbox is worth. -/
noncomputable def Try.pinned : Pinned := { name := "ytigknndkmlhmfaa", sum := "2b77d3973d0929c1296cade02b6b67db5bc1c26a11413ff9e4ca46a9f6ac0fe8", checked := Try.checked }
namespace Rows
def none {H : Type} : Left H := { results := [], args := [] }

/-- 'multikernellaw31.LrpcOrder': WHATEVER THE INPUT: true; the input reads as it did. -/
def lrpcOrderSpec : ChangeSpec := { name := "lrpcOrder", fn := fun _ => fun
  | [d1, d2, d3] => { results := [.lit (.bool true)], args := [d1, d2, d3] }
  | _ => none }
def lrpcOrderRow : OpenClaim := { program := "ytigknndkmlhmfaa", sum := "2b77d3973d0929c1296cade02b6b67db5bc1c26a11413ff9e4ca46a9f6ac0fe8", func := "multikernel/multikernellaw31.LrpcOrder", spec := "lrpcOrder", inPlace := ["slices.overlaps[multikernel/api.Endpoint]"], unfollowed := true, recurses := true, apart := false }
def LrpcOrderSaid : Prop := lrpcOrderRow.holds Try.pinned (OpenSpec.ofChange lrpcOrderSpec)

/-- ITS FALSE NEIGHBOUR: 'it returns false'. Refute it at one input. -/
def lrpcOrderWrong : ChangeSpec := { name := "lrpcOrder", fn := fun _ => fun
  | [d1, d2, d3] => { results := [.lit (.bool false)], args := [d1, d2, d3] }
  | _ => none }
def LrpcOrderWrongFalsely : Prop := lrpcOrderRow.holds Try.pinned (OpenSpec.ofChange lrpcOrderWrong)

/-- 'multikernellaw31.LrpcFull': WHATEVER THE INPUT: true; the input reads as it did. -/
def lrpcFullSpec : ChangeSpec := { name := "lrpcFull", fn := fun _ => fun
  | [d] => { results := [.lit (.bool true)], args := [d] }
  | _ => none }
def lrpcFullRow : OpenClaim := { program := "ytigknndkmlhmfaa", sum := "2b77d3973d0929c1296cade02b6b67db5bc1c26a11413ff9e4ca46a9f6ac0fe8", func := "multikernel/multikernellaw31.LrpcFull", spec := "lrpcFull", inPlace := ["slices.overlaps[multikernel/api.Endpoint]"], unfollowed := true, recurses := true, apart := false }
def LrpcFullSaid : Prop := lrpcFullRow.holds Try.pinned (OpenSpec.ofChange lrpcFullSpec)

/-- ITS FALSE NEIGHBOUR: 'it returns false'. Refute it at one input. -/
def lrpcFullWrong : ChangeSpec := { name := "lrpcFull", fn := fun _ => fun
  | [d] => { results := [.lit (.bool false)], args := [d] }
  | _ => none }
def LrpcFullWrongFalsely : Prop := lrpcFullRow.holds Try.pinned (OpenSpec.ofChange lrpcFullWrong)

/-- 'multikernellaw31.LrpcRights': WHATEVER THE INPUT: true; the input reads as it did. -/
def lrpcRightsSpec : ChangeSpec := { name := "lrpcRights", fn := fun _ => fun
  | [d1, d2, d3] => { results := [.lit (.bool true)], args := [d1, d2, d3] }
  | _ => none }
def lrpcRightsRow : OpenClaim := { program := "ytigknndkmlhmfaa", sum := "2b77d3973d0929c1296cade02b6b67db5bc1c26a11413ff9e4ca46a9f6ac0fe8", func := "multikernel/multikernellaw31.LrpcRights", spec := "lrpcRights", inPlace := ["slices.overlaps[multikernel/api.Endpoint]"], unfollowed := true, recurses := true, apart := false }
def LrpcRightsSaid : Prop := lrpcRightsRow.holds Try.pinned (OpenSpec.ofChange lrpcRightsSpec)

/-- ITS FALSE NEIGHBOUR: 'it returns false'. Refute it at one input. -/
def lrpcRightsWrong : ChangeSpec := { name := "lrpcRights", fn := fun _ => fun
  | [d1, d2, d3] => { results := [.lit (.bool false)], args := [d1, d2, d3] }
  | _ => none }
def LrpcRightsWrongFalsely : Prop := lrpcRightsRow.holds Try.pinned (OpenSpec.ofChange lrpcRightsWrong)

/-- 'multikernellaw31.LrpcExact': WHATEVER THE INPUT: true; the input reads as it did. -/
def lrpcExactSpec : ChangeSpec := { name := "lrpcExact", fn := fun _ => fun
  | [d1, d2, d3, d4, d5, d6] => { results := [.lit (.bool true)], args := [d1, d2, d3, d4, d5, d6] }
  | _ => none }
def lrpcExactRow : OpenClaim := { program := "ytigknndkmlhmfaa", sum := "2b77d3973d0929c1296cade02b6b67db5bc1c26a11413ff9e4ca46a9f6ac0fe8", func := "multikernel/multikernellaw31.LrpcExact", spec := "lrpcExact", inPlace := ["slices.overlaps[multikernel/api.Endpoint]"], unfollowed := true, recurses := true, apart := false }
def LrpcExactSaid : Prop := lrpcExactRow.holds Try.pinned (OpenSpec.ofChange lrpcExactSpec)

/-- ITS FALSE NEIGHBOUR: 'it returns false'. Refute it at one input. -/
def lrpcExactWrong : ChangeSpec := { name := "lrpcExact", fn := fun _ => fun
  | [d1, d2, d3, d4, d5, d6] => { results := [.lit (.bool false)], args := [d1, d2, d3, d4, d5, d6] }
  | _ => none }
def LrpcExactWrongFalsely : Prop := lrpcExactRow.holds Try.pinned (OpenSpec.ofChange lrpcExactWrong)

/-- 'multikernellaw31.LrpcOnce': WHATEVER THE INPUT: true; the input reads as it did. -/
def lrpcOnceSpec : ChangeSpec := { name := "lrpcOnce", fn := fun _ => fun
  | [d] => { results := [.lit (.bool true)], args := [d] }
  | _ => none }
def lrpcOnceRow : OpenClaim := { program := "ytigknndkmlhmfaa", sum := "2b77d3973d0929c1296cade02b6b67db5bc1c26a11413ff9e4ca46a9f6ac0fe8", func := "multikernel/multikernellaw31.LrpcOnce", spec := "lrpcOnce", inPlace := ["slices.overlaps[multikernel/api.Endpoint]"], unfollowed := true, recurses := true, apart := false }
def LrpcOnceSaid : Prop := lrpcOnceRow.holds Try.pinned (OpenSpec.ofChange lrpcOnceSpec)

/-- ITS FALSE NEIGHBOUR: 'it returns false'. Refute it at one input. -/
def lrpcOnceWrong : ChangeSpec := { name := "lrpcOnce", fn := fun _ => fun
  | [d] => { results := [.lit (.bool false)], args := [d] }
  | _ => none }
def LrpcOnceWrongFalsely : Prop := lrpcOnceRow.holds Try.pinned (OpenSpec.ofChange lrpcOnceWrong)

/- THE SECOND FORM. 'bulk': how many values and letters a reading holds, each counted each time it is reached (what is shared counts as often as it is met; a slice's spare places count too). A statement '..UptoSaid' is the law's where the arguments, and the package variables that the reading takes, are together of bulk at most 1048576: NARROWER than '..Said'. Prove '..Said' where nothing that the law and all that it calls make is longer than what came in: it says more and counts as full. Else prove '..UptoSaid'. A law counts once. -/
mutual
def uptoBulk {H : Type} : DataW H → Nat
  | .lit (.string bytes) => bytes.length + 1
  | .lit _ => 1
  | .nil => 1
  | .ptr d => uptoBulk d + 1
  | .slice elems spare => uptoBulkAll elems + uptoBulkAll spare + 1
  | .agg parts => uptoBulkAll parts + 1
  | .iface _ d => uptoBulk d + 1
  | .map entries => uptoBulkEntries entries + 1
  | .held _ => 1
def uptoBulkAll {H : Type} : List (DataW H) → Nat
  | [] => 0
  | d :: r => uptoBulk d + uptoBulkAll r
def uptoBulkEntries {H : Type} : List (Lit × DataW H) → Nat
  | [] => 0
  | x :: r => uptoBulkEntry x + uptoBulkEntries r
def uptoBulkEntry {H : Type} : Lit × DataW H → Nat
  | (.string bytes, d) => bytes.length + uptoBulk d + 1
  | (_, d) => uptoBulk d + 1
 end
def uptoSmall : (H : Type) → List (DataW H) → Bool := fun _ ds => decide (uptoBulkAll ds ≤ 1048576)
def OpenSpec.upto (s : _root_.Go.ChangeSpec) : _root_.Go.OpenSpec := { _root_.Go.OpenSpec.ofChange s with cond := some uptoSmall }

/-- 'multikernellaw31.LrpcOrder', WHERE WHAT IT READS IS OF BULK AT MOST 1048576: true; the input reads as it did. -/
def lrpcOrderUptoRow : OpenClaim := { program := "ytigknndkmlhmfaa", sum := "2b77d3973d0929c1296cade02b6b67db5bc1c26a11413ff9e4ca46a9f6ac0fe8", func := "multikernel/multikernellaw31.LrpcOrder", spec := "lrpcOrder", inPlace := ["slices.overlaps[multikernel/api.Endpoint]"], unfollowed := true, recurses := true, apart := false, narrowed := true }
def LrpcOrderUptoSaid : Prop := lrpcOrderUptoRow.holds Try.pinned (OpenSpec.upto lrpcOrderSpec)

/-- 'multikernellaw31.LrpcFull', WHERE WHAT IT READS IS OF BULK AT MOST 1048576: true; the input reads as it did. -/
def lrpcFullUptoRow : OpenClaim := { program := "ytigknndkmlhmfaa", sum := "2b77d3973d0929c1296cade02b6b67db5bc1c26a11413ff9e4ca46a9f6ac0fe8", func := "multikernel/multikernellaw31.LrpcFull", spec := "lrpcFull", inPlace := ["slices.overlaps[multikernel/api.Endpoint]"], unfollowed := true, recurses := true, apart := false, narrowed := true }
def LrpcFullUptoSaid : Prop := lrpcFullUptoRow.holds Try.pinned (OpenSpec.upto lrpcFullSpec)

/-- 'multikernellaw31.LrpcRights', WHERE WHAT IT READS IS OF BULK AT MOST 1048576: true; the input reads as it did. -/
def lrpcRightsUptoRow : OpenClaim := { program := "ytigknndkmlhmfaa", sum := "2b77d3973d0929c1296cade02b6b67db5bc1c26a11413ff9e4ca46a9f6ac0fe8", func := "multikernel/multikernellaw31.LrpcRights", spec := "lrpcRights", inPlace := ["slices.overlaps[multikernel/api.Endpoint]"], unfollowed := true, recurses := true, apart := false, narrowed := true }
def LrpcRightsUptoSaid : Prop := lrpcRightsUptoRow.holds Try.pinned (OpenSpec.upto lrpcRightsSpec)

/-- 'multikernellaw31.LrpcExact', WHERE WHAT IT READS IS OF BULK AT MOST 1048576: true; the input reads as it did. -/
def lrpcExactUptoRow : OpenClaim := { program := "ytigknndkmlhmfaa", sum := "2b77d3973d0929c1296cade02b6b67db5bc1c26a11413ff9e4ca46a9f6ac0fe8", func := "multikernel/multikernellaw31.LrpcExact", spec := "lrpcExact", inPlace := ["slices.overlaps[multikernel/api.Endpoint]"], unfollowed := true, recurses := true, apart := false, narrowed := true }
def LrpcExactUptoSaid : Prop := lrpcExactUptoRow.holds Try.pinned (OpenSpec.upto lrpcExactSpec)

/-- 'multikernellaw31.LrpcOnce', WHERE WHAT IT READS IS OF BULK AT MOST 1048576: true; the input reads as it did. -/
def lrpcOnceUptoRow : OpenClaim := { program := "ytigknndkmlhmfaa", sum := "2b77d3973d0929c1296cade02b6b67db5bc1c26a11413ff9e4ca46a9f6ac0fe8", func := "multikernel/multikernellaw31.LrpcOnce", spec := "lrpcOnce", inPlace := ["slices.overlaps[multikernel/api.Endpoint]"], unfollowed := true, recurses := true, apart := false, narrowed := true }
def LrpcOnceUptoSaid : Prop := lrpcOnceUptoRow.holds Try.pinned (OpenSpec.upto lrpcOnceSpec)

end Rows
end Go.Proofs.Ytigknndkmlhmfaa
