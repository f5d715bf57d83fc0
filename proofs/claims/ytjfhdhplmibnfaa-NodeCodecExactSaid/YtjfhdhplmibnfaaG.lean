/- What all trees of this seat are told. -/
import Derived.Test.YtjfhdhplmibnfaaM3
import Derived.Test.YtjfhdhplmibnfaaProg
import Derived.KernelRfl
namespace Go.Proofs.Ytjfhdhplmibnfaa
open Go Go.AM

def freshG : List Nat := [20, 21, 38, 39, 78, 84, 85, 63, 56, 52, 86, 87, 64]
def consG : List (Nat × Nat) := [(85, 0), (86, 0), (87, 0)]
def plainG : List Nat := [23, 43, 55]
def keepOf (k : List (Nat × List (Nat × HP))) (i : Nat) : List (Nat × HP) := match k with | [] => [] | (j, l) :: r => if i = j then l else keepOf r i
def envG (nt : Nat) (res : List Nat) (keep : List (Nat × List (Nat × HP))) (pins : List Nat) : Env := { nt, cons := fun f i => consG.contains (f, i), fresh := fun f => freshG.contains f, plain := plainG, res, keep := keepOf keep, pins }
theorem plain_ok : PlainSound Try.prog plainG := plain_of (by kernel_rfl)
theorem mixed : Try.prog.follows .mixedOrders = true := by kernel_rfl

end Go.Proofs.Ytjfhdhplmibnfaa
