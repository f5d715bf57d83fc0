/-
  No cell of these rows narrows 'for every input' (looked for: loops, veiled, ifaces, maps, wideKeys, modest, calm, conditions, laid).
  DERIVED. THE GIVEN ROWS OF THIS SEAT. 5 by the template 'for every input the law returns true; each argument reads behind the call as it read before'; 0 by the template 'total and deterministic' (their statements: YtpjnmgjphfnmmaaTotals.lean).
  GIVEN WITH THE SEED: the statements are not yours to turn. If you find one false, say at which input.
  Laid BY PROGRAM, IN A SANDBOX (cutbox-rows.mjs): the forced cells as the released guide's own fill.sh prints them over the translation 82dde81eb71b0b2d… (all of the seat's roots in one cut). By AI agents, Wed Nov 11 2026. No macro, syntax, notation, axiom, sorry.
-/
import Derived.Test.YtpjnmgjphfnmmaaChecked
import GoSem.Claim
import GoSem.ClaimJoined
import GoSem.ClaimMapViews
import Derived.JoinedTies
import Derived.KernelRfl
namespace Go.Proofs.Ytpjnmgjphfnmmaa
/- THE CELL 'sum', in the pinned program and in every row, IS THE sha256 OF THE DUMP (.gsa) THAT YtpjnmgjphfnmmaaProg.lean LOADS. Nothing in Lean hashes anything: it is a label: what it is worth is what the hold of that sum in a sandbox is worth. -/
noncomputable def Try.pinned : Pinned := { name := "ytpjnmgjphfnmmaa", sum := "82dde81eb71b0b2d80f50ec812b7871c3568116c3407e86ebd7e850e773e4a02", checked := Try.checked }
namespace Rows
def none {H : Type} : Left H := { results := [], args := [] }

/-- 'multikernellaw36.ProcessWait': WHATEVER THE INPUT: true; the input reads as it did. -/
def processWaitSpec : ChangeSpec := { name := "processWait", fn := fun _ => fun
  | [d1, d2, d3] => { results := [.lit (.bool true)], args := [d1, d2, d3] }
  | _ => none }
def processWaitRow : OpenClaim := { program := "ytpjnmgjphfnmmaa", sum := "82dde81eb71b0b2d80f50ec812b7871c3568116c3407e86ebd7e850e773e4a02", func := "multikernel/multikernellaw36.ProcessWait", spec := "processWait", unfollowed := true, recurses := true, apart := false }
def ProcessWaitSaid : Prop := processWaitRow.holds Try.pinned (OpenSpec.ofChange processWaitSpec)

/-- ITS FALSE NEIGHBOUR: 'it returns false'. Refute it at one input. -/
def processWaitWrong : ChangeSpec := { name := "processWait", fn := fun _ => fun
  | [d1, d2, d3] => { results := [.lit (.bool false)], args := [d1, d2, d3] }
  | _ => none }
def ProcessWaitWrongFalsely : Prop := processWaitRow.holds Try.pinned (OpenSpec.ofChange processWaitWrong)

/-- 'multikernellaw36.ProcessTree': WHATEVER THE INPUT: true; the input reads as it did. -/
def processTreeSpec : ChangeSpec := { name := "processTree", fn := fun _ => fun
  | [d1, d2] => { results := [.lit (.bool true)], args := [d1, d2] }
  | _ => none }
def processTreeRow : OpenClaim := { program := "ytpjnmgjphfnmmaa", sum := "82dde81eb71b0b2d80f50ec812b7871c3568116c3407e86ebd7e850e773e4a02", func := "multikernel/multikernellaw36.ProcessTree", spec := "processTree", unfollowed := true, recurses := true, apart := false }
def ProcessTreeSaid : Prop := processTreeRow.holds Try.pinned (OpenSpec.ofChange processTreeSpec)

/-- ITS FALSE NEIGHBOUR: 'it returns false'. Refute it at one input. -/
def processTreeWrong : ChangeSpec := { name := "processTree", fn := fun _ => fun
  | [d1, d2] => { results := [.lit (.bool false)], args := [d1, d2] }
  | _ => none }
def ProcessTreeWrongFalsely : Prop := processTreeRow.holds Try.pinned (OpenSpec.ofChange processTreeWrong)

/-- 'multikernellaw36.ProcessKill': WHATEVER THE INPUT: true; the input reads as it did. -/
def processKillSpec : ChangeSpec := { name := "processKill", fn := fun _ => fun
  | [d1, d2, d3, d4] => { results := [.lit (.bool true)], args := [d1, d2, d3, d4] }
  | _ => none }
def processKillRow : OpenClaim := { program := "ytpjnmgjphfnmmaa", sum := "82dde81eb71b0b2d80f50ec812b7871c3568116c3407e86ebd7e850e773e4a02", func := "multikernel/multikernellaw36.ProcessKill", spec := "processKill", unfollowed := true, recurses := true, apart := false }
def ProcessKillSaid : Prop := processKillRow.holds Try.pinned (OpenSpec.ofChange processKillSpec)

/-- ITS FALSE NEIGHBOUR: 'it returns false'. Refute it at one input. -/
def processKillWrong : ChangeSpec := { name := "processKill", fn := fun _ => fun
  | [d1, d2, d3, d4] => { results := [.lit (.bool false)], args := [d1, d2, d3, d4] }
  | _ => none }
def ProcessKillWrongFalsely : Prop := processKillRow.holds Try.pinned (OpenSpec.ofChange processKillWrong)

/-- 'multikernellaw36.ProcessDepart': WHATEVER THE INPUT: true; the input reads as it did. -/
def processDepartSpec : ChangeSpec := { name := "processDepart", fn := fun _ => fun
  | [d1, d2, d3] => { results := [.lit (.bool true)], args := [d1, d2, d3] }
  | _ => none }
def processDepartRow : OpenClaim := { program := "ytpjnmgjphfnmmaa", sum := "82dde81eb71b0b2d80f50ec812b7871c3568116c3407e86ebd7e850e773e4a02", func := "multikernel/multikernellaw36.ProcessDepart", spec := "processDepart", unfollowed := true, recurses := true, apart := false }
def ProcessDepartSaid : Prop := processDepartRow.holds Try.pinned (OpenSpec.ofChange processDepartSpec)

/-- ITS FALSE NEIGHBOUR: 'it returns false'. Refute it at one input. -/
def processDepartWrong : ChangeSpec := { name := "processDepart", fn := fun _ => fun
  | [d1, d2, d3] => { results := [.lit (.bool false)], args := [d1, d2, d3] }
  | _ => none }
def ProcessDepartWrongFalsely : Prop := processDepartRow.holds Try.pinned (OpenSpec.ofChange processDepartWrong)

/-- 'multikernellaw36.ProcessClone': WHATEVER THE INPUT: true; the input reads as it did. -/
def processCloneSpec : ChangeSpec := { name := "processClone", fn := fun _ => fun
  | [d1, d2, d3] => { results := [.lit (.bool true)], args := [d1, d2, d3] }
  | _ => none }
def processCloneRow : OpenClaim := { program := "ytpjnmgjphfnmmaa", sum := "82dde81eb71b0b2d80f50ec812b7871c3568116c3407e86ebd7e850e773e4a02", func := "multikernel/multikernellaw36.ProcessClone", spec := "processClone", unfollowed := true, recurses := true, apart := false }
def ProcessCloneSaid : Prop := processCloneRow.holds Try.pinned (OpenSpec.ofChange processCloneSpec)

/-- ITS FALSE NEIGHBOUR: 'it returns false'. Refute it at one input. -/
def processCloneWrong : ChangeSpec := { name := "processClone", fn := fun _ => fun
  | [d1, d2, d3] => { results := [.lit (.bool false)], args := [d1, d2, d3] }
  | _ => none }
def ProcessCloneWrongFalsely : Prop := processCloneRow.holds Try.pinned (OpenSpec.ofChange processCloneWrong)

/- THE SECOND FORM. 'bulk': how many values and letters a reading holds, each counted each time it is reached (what is shared counts as often as it is met; a slice's spare places count too). A statement '..UptoSaid' is the law's where the arguments, and the package variables that the reading takes, are together of bulk at most 1048576: NARROWER than '..Said'. Prove '..Said' where nothing that the law and all that it calls make is longer than what came in: it says more and counts as full. Else prove '..UptoSaid'. A law counts once. -/
mutual
def uptoBulk {H : Type} : DataW H → Nat
  | .lit (.string bytes) => bytes.length + 1
  | .lit _ => 1
  | .nil => 1
  | .ptr d => uptoBulk d + 1
  | .slice elems spare => uptoBulkAll elems + uptoBulkAll spare + 1
  | .agg parts => uptoBulkAll parts + 1
  | .iface _ d => uptoBulk d + 1
  | .map entries => uptoBulkEntries entries + 1
  | .held _ => 1
def uptoBulkAll {H : Type} : List (DataW H) → Nat
  | [] => 0
  | d :: r => uptoBulk d + uptoBulkAll r
def uptoBulkEntries {H : Type} : List (Lit × DataW H) → Nat
  | [] => 0
  | x :: r => uptoBulkEntry x + uptoBulkEntries r
def uptoBulkEntry {H : Type} : Lit × DataW H → Nat
  | (.string bytes, d) => bytes.length + uptoBulk d + 1
  | (_, d) => uptoBulk d + 1
 end
def uptoSmall : (H : Type) → List (DataW H) → Bool := fun _ ds => decide (uptoBulkAll ds ≤ 1048576)
def OpenSpec.upto (s : _root_.Go.ChangeSpec) : _root_.Go.OpenSpec := { _root_.Go.OpenSpec.ofChange s with cond := some uptoSmall }

/-- 'multikernellaw36.ProcessWait', WHERE WHAT IT READS IS OF BULK AT MOST 1048576: true; the input reads as it did. -/
def processWaitUptoRow : OpenClaim := { program := "ytpjnmgjphfnmmaa", sum := "82dde81eb71b0b2d80f50ec812b7871c3568116c3407e86ebd7e850e773e4a02", func := "multikernel/multikernellaw36.ProcessWait", spec := "processWait", unfollowed := true, recurses := true, apart := false, narrowed := true }
def ProcessWaitUptoSaid : Prop := processWaitUptoRow.holds Try.pinned (OpenSpec.upto processWaitSpec)

/-- 'multikernellaw36.ProcessTree', WHERE WHAT IT READS IS OF BULK AT MOST 1048576: true; the input reads as it did. -/
def processTreeUptoRow : OpenClaim := { program := "ytpjnmgjphfnmmaa", sum := "82dde81eb71b0b2d80f50ec812b7871c3568116c3407e86ebd7e850e773e4a02", func := "multikernel/multikernellaw36.ProcessTree", spec := "processTree", unfollowed := true, recurses := true, apart := false, narrowed := true }
def ProcessTreeUptoSaid : Prop := processTreeUptoRow.holds Try.pinned (OpenSpec.upto processTreeSpec)

/-- 'multikernellaw36.ProcessKill', WHERE WHAT IT READS IS OF BULK AT MOST 1048576: true; the input reads as it did. -/
def processKillUptoRow : OpenClaim := { program := "ytpjnmgjphfnmmaa", sum := "82dde81eb71b0b2d80f50ec812b7871c3568116c3407e86ebd7e850e773e4a02", func := "multikernel/multikernellaw36.ProcessKill", spec := "processKill", unfollowed := true, recurses := true, apart := false, narrowed := true }
def ProcessKillUptoSaid : Prop := processKillUptoRow.holds Try.pinned (OpenSpec.upto processKillSpec)

/-- 'multikernellaw36.ProcessDepart', WHERE WHAT IT READS IS OF BULK AT MOST 1048576: true; the input reads as it did. -/
def processDepartUptoRow : OpenClaim := { program := "ytpjnmgjphfnmmaa", sum := "82dde81eb71b0b2d80f50ec812b7871c3568116c3407e86ebd7e850e773e4a02", func := "multikernel/multikernellaw36.ProcessDepart", spec := "processDepart", unfollowed := true, recurses := true, apart := false, narrowed := true }
def ProcessDepartUptoSaid : Prop := processDepartUptoRow.holds Try.pinned (OpenSpec.upto processDepartSpec)

/-- 'multikernellaw36.ProcessClone', WHERE WHAT IT READS IS OF BULK AT MOST 1048576: true; the input reads as it did. -/
def processCloneUptoRow : OpenClaim := { program := "ytpjnmgjphfnmmaa", sum := "82dde81eb71b0b2d80f50ec812b7871c3568116c3407e86ebd7e850e773e4a02", func := "multikernel/multikernellaw36.ProcessClone", spec := "processClone", unfollowed := true, recurses := true, apart := false, narrowed := true }
def ProcessCloneUptoSaid : Prop := processCloneUptoRow.holds Try.pinned (OpenSpec.upto processCloneSpec)

end Rows
end Go.Proofs.Ytpjnmgjphfnmmaa
