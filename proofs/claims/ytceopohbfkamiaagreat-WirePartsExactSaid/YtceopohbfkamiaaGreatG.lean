/- What all trees of this seat are told. -/
import Derived.Test.YtceopohbfkamiaaGreatM4
import Derived.Test.YtceopohbfkamiaaGreatProg
import Derived.KernelRfl
namespace Go.Proofs.YtceopohbfkamiaaGreat
open Go Go.AM

def freshG : List Nat := [19, 72, 147, 173, 181, 174, 7, 83, 21, 24, 148, 84, 149, 85, 30, 22, 23, 25, 26, 29, 28, 27, 8, 133, 134, 135, 139]
def consG : List (Nat × Nat) := [(147, 0), (83, 0), (21, 0), (24, 0), (148, 0), (84, 0), (30, 0), (22, 0), (23, 0), (25, 0), (26, 0), (29, 0), (28, 0), (27, 0)]
def plainG : List Nat := [23, 26, 29, 80, 107, 109]
def keepOf (k : List (Nat × List (Nat × HP))) (i : Nat) : List (Nat × HP) := match k with | [] => [] | (j, l) :: r => if i = j then l else keepOf r i
def envG (nt : Nat) (res : List Nat) (keep : List (Nat × List (Nat × HP))) (pins : List Nat) (ng : Nat) : Env := { nt, cons := fun f i => consG.contains (f, i), fresh := fun f => freshG.contains f, plain := plainG, res, keep := keepOf keep, pins, ng }
@[reducible] def hs0 : List Sh := [.int .i64, .int .i64, .int .i64, .int .i64, .int .i64, .int .i64, .int .i64, .int .i64, .int .i64, .int .i64, .int .i64, .bool, .int .i64, .int .i64, .int .i64, .int .i64, .int .i64, .int .i64, .int .i64, .int .i64, .int .i64, .int .i64, .int .i64, .int .i64, .int .i64, .int .i64, .int .i64, .int .i64, .int .i64, .int .i64, .int .i64, .int .i64, .slice 3, .int .i64, .int .i64, .int .i64, .int .i64, .int .i64, .int .i64, .bool, .slice 3, .slice 11, .slice 1, .slice 2, .int .i64, .int .i64, .slice 1, .slice 1, .slice 15, .slice 28, .slice 4, .slice 2, .slice 13, .slice 3, .int .i64, .int .i64, .slice 1, .slice 1, .slice 15, .slice 28, .slice 4, .slice 2, .slice 13, .slice 3, .bool, .int .i64, .slice 1, .slice 1, .slice 15, .slice 28, .slice 4, .slice 2, .slice 13, .slice 3]
@[reducible] def Qt1 : Type := Bool × Int × Int × Int × Int × Int × Int × Int × Int × Int × Int × Int × Bool × Int × Int × Int × Int × Int × Int × Int × Int × Int × Int × Int × Int × Int × Int × Int × Int × Int × Int × Int × Int × List (List AV) × Int × Int × Int × Int × Int × Int × Bool × List (List AV) × List (List AV) × List (List AV) × List (List AV) × Int × Int × List (List AV) × List (List AV) × List (List AV) × List (List AV) × List (List AV) × List (List AV) × List (List AV) × List (List AV) × Int × Int × List (List AV) × List (List AV) × List (List AV) × List (List AV) × List (List AV) × List (List AV) × List (List AV) × List (List AV) × Bool × Int × List (List AV) × List (List AV) × List (List AV) × List (List AV) × List (List AV) × List (List AV) × List (List AV) × List (List AV)
@[reducible] def Qt2 : Type := Int × Int × Int × Int × Int × Int × Int × Int × Int × Int × Int × Bool × Int × Int × Int × Int × Int × Int × Int × Int × Int × Int × Int × Int × Int × Int × Int × Int × Int × Int × Int × Int × List (List AV) × Int × Int × Int × Int × Int × Int × Bool × List (List AV) × List (List AV) × List (List AV) × List (List AV) × Int × Int × List (List AV) × List (List AV) × List (List AV) × List (List AV) × List (List AV) × List (List AV) × List (List AV) × List (List AV) × Int × Int × List (List AV) × List (List AV) × List (List AV) × List (List AV) × List (List AV) × List (List AV) × List (List AV) × List (List AV) × Bool × Int × List (List AV) × List (List AV) × List (List AV) × List (List AV) × List (List AV) × List (List AV) × List (List AV) × List (List AV) × Int
@[reducible] def Qt3 : Type := Int × Int × Int × Int × Int × Int × Int × Int × Int × Int × Int × Bool × Int × Int × Int × Int × Int × Int × Int × Int × Int × Int × Int × Int × Int × Int × Int × Int × Int × Int × Int × Int × List (List AV) × Int × Int × Int × Int × Int × Int × Bool × List (List AV) × List (List AV) × List (List AV) × List (List AV) × Int × Int × List (List AV) × List (List AV) × List (List AV) × List (List AV) × List (List AV) × List (List AV) × List (List AV) × List (List AV) × Int × Int × List (List AV) × List (List AV) × List (List AV) × List (List AV) × List (List AV) × List (List AV) × List (List AV) × List (List AV) × Bool × Int × List (List AV) × List (List AV) × List (List AV) × List (List AV) × List (List AV) × List (List AV) × List (List AV) × List (List AV)
@[reducible] def hs4 : List Sh := [.int .i64, .int .i64, .int .i64, .int .i64, .int .i64, .int .i64, .int .i64, .int .i64, .int .i64, .int .i64, .int .i64, .int .i64, .int .i64, .int .i64, .int .i64, .int .i64, .int .i64, .int .i64, .int .i64, .int .i64, .slice 3, .int .i64, .int .i64, .int .i64, .int .i64, .int .i64, .int .i64, .bool]
@[reducible] def hs5 : List Sh := [.int .i64, .int .i64, .slice 1, .slice 1, .slice 15, .slice 28, .slice 4, .slice 2, .slice 13, .slice 3, .bool, .int .i64, .slice 1, .slice 1, .slice 15, .slice 28, .slice 4, .slice 2, .slice 13, .slice 3]
@[reducible] def Qt6 : Type := Int × Int × Int × Int × Int × Int × Int × Int × Int × Int × Int × Int × Int × Int × Int × Int × Int × Int × Int × Int × List (List AV) × Int × Int × Int × Int × Int × Int × Bool
@[reducible] def hs7 : List Sh := [.int .i64, .int .i64, .int .i64, .slice 3, .int .i64, .int .i64, .int .i64, .int .i64, .int .i64, .int .i64, .bool, .int .i64, .int .i64, .int .i64, .int .i64]
@[reducible] def hs8 : List Sh := [.int .i64, .int .i64, .int .i64, .int .i64, .int .i64, .slice 3, .int .i64, .int .i64, .int .i64, .int .i64, .int .i64, .int .i64, .bool]
@[reducible] def hs9 : List Sh := [.int .i64, .int .i64, .int .i64, .int .i64, .int .i64, .int .i64, .int .i64, .int .i64, .int .i64, .int .i64, .int .i64, .int .i64]
@[reducible] def hs10 : List Sh := [.int .i64, .int .i64, .int .i64, .slice 3, .int .i64, .int .i64, .int .i64, .int .i64, .int .i64, .int .i64, .bool]
@[reducible] def Qt11 : Type := Int × Int × Int × List (List AV) × Int × Int × Int × Int × Int × Int × Bool × Int × Int × Int × Int
@[reducible] def Qt12 : Type := Int × Int × Int × Int × Int × List (List AV) × Int × Int × Int × Int × Int × Int × Bool
@[reducible] def Qt13 : Type := Int × Int × Int × List (List AV) × Int × Int × Int × Int × Int × Int × Bool
@[reducible] def hs14 : List Sh := [.int .i64, .int .i64, .int .i64, .int .i64, .int .i64, .int .i64, .bool]
@[reducible] def hs15 : List Sh := [.slice 15, .slice 28, .slice 4, .slice 2, .slice 13, .slice 3]
@[reducible] def hs16 : List Sh := [.own 95, .own 33, .own 107, .own 109, .own 97, .slice 3]
theorem plain_ok : PlainSound Tryz.prog plainG := plain_of (by kernel_rfl)
theorem mixed : Tryz.prog.follows .mixedOrders = true := by kernel_rfl

end Go.Proofs.YtceopohbfkamiaaGreat
