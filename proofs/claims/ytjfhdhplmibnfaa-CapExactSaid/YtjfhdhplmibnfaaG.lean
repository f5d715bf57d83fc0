import Derived.Test.YtjfhdhplmibnfaaAmPlain
namespace Go.Proofs.Ytjfhdhplmibnfaa
open Go Go.AM

def freshG : List Nat := [20, 21, 38, 39, 78, 56, 52, 63, 64, 84, 85, 86, 87]
def consG : List (Nat × Nat) := [(86, 0), (87, 0), (85, 0)]
def plainG : List Nat := [22, 23, 43, 55, 54, 42]
def keepOf (k : List (Nat × List Nat)) (i : Nat) : List Nat := match k with | [] => [] | (j, l) :: r => if i = j then l else keepOf r i
def envG (nt : Nat) (res : List Nat) (keep : List (Nat × List Nat)) (pins : List Nat) : Env := { nt, cons := fun f i => consG.contains (f, i), fresh := fun f => freshG.contains f, plain := plainG, res, keep := keepOf keep, pins }

end Go.Proofs.Ytjfhdhplmibnfaa
