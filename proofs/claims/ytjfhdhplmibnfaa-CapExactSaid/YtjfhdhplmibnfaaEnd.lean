/- What all claims of this seat share: closed facts of the program's form. -/
import Derived.Test.YtjfhdhplmibnfaaRows
import Derived.Test.YtjfhdhplmibnfaaChecked
import Derived.Test.YtjfhdhplmibnfaaAmRow
import Derived.Test.YtjfhdhplmibnfaaAmLift
import Derived.JoinedOf
import Derived.JoinedAt
import Derived.RowKit3
import Derived.KernelRfl
namespace Go.Proofs.Ytjfhdhplmibnfaa
open Go Go.AM
set_option maxRecDepth 100000

theorem behind : ∃ ws, behindMainWord (wordsSigns Try.prog.initOrder.toList) = "cut".toList :: ws := by
  have h : Try.prog.initOrder.toList = _ := String.toList_ofList (l := _)
  rw [h]
  exact behind_words (by kernel_rfl) (by kernel_rfl) (by kernel_rfl) (by kernel_rfl) (by kernel_rfl) (by kernel_rfl)

theorem enters : Try.prog.mayEnter = true := behind.elim fun _ h => enters_of h (by kernel_rfl) (by kernel_rfl) (by kernel_rfl)
theorem lifts : Try.prog.liftsFinal = false := behind.elim fun _ h => final_of h
theorem makeIs : Try.prog.make = some .cut := behind.elim fun _ h => make_of h
theorem laid : laidOutB Try.prog = true := by kernel_rfl
theorem ownKnobOk : ownKnob Try.prog.godebug = none := by kernel_rfl
theorem mixed : Try.prog.follows .mixedOrders = true := by kernel_rfl

end Go.Proofs.Ytjfhdhplmibnfaa
