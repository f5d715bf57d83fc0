/- What all trees of this seat are told. -/
import Derived.Test.YtljejgmcgddppaaAmIns
import Derived.Test.YtljejgmcgddppaaProg
import Derived.KernelRfl
namespace Go.Proofs.Ytljejgmcgddppaa
open Go Go.AM
def freshG : List (Nat × Nat) := [(18, 1), (16, 2), (31, 2), (8, 2), (9, 2), (26, 2), (27, 2), (12, 2), (13, 2), (30, 1), (14, 1), (15, 2)]
def consG : List (Nat × Nat) := [(27, 0), (12, 0), (30, 0), (30, 2), (14, 0)]
def plainG : List Nat := [32, 35, 38, 57]
def atG (l : List (Nat × Nat)) (i : Nat) : Nat := match l with | [] => 0 | (j, n) :: r => if i = j then n else atG r i
def fzOf (l : List (Nat × List (Nat × Nat))) (i : Nat) : List (Nat × Nat) := match l with | [] => [] | (j, n) :: r => if i = j then n else fzOf r i
def keepOf (k : List (Nat × List (Nat × HP))) (i : Nat) : List (Nat × HP) := match k with | [] => [] | (j, l) :: r => if i = j then l else keepOf r i
def envG (nt : Nat) (res : List Nat) (keep : List (Nat × List (Nat × HP))) (pins : List Nat) (ng : Nat) (ex : List Nat) (fz : List (Nat × List (Nat × Nat))) : Env := { nt, cons := fun f i => consG.contains (f, i), fresh := atG freshG, plain := plainG, res, keep := keepOf keep, pins, ng, ex, fz := fzOf fz }
@[reducible] def hs0 : List Sh := [.int .i64, .int .i64, .int .i64, .int .i64, .int .i64, .int .i64, .int .i64, .int .i64, .int .i64, .int .i64, .int .i64, .bool, .int .i64, .int .i64, .int .i64, .int .i64, .int .i64, .int .i64, .int .i64, .int .i64, .int .i64, .int .i64, .int .i64, .int .i64, .int .i64, .int .i64, .int .i64, .int .i64, .int .i64, .int .i64, .int .i64, .int .i64, .slice 3, .int .i64, .int .i64, .int .i64, .int .i64, .int .i64, .int .i64, .bool, .slice 3, .slice 11, .slice 1, .slice 2, .int .i64, .int .i64, .slice 1, .slice 1, .slice 15, .slice 28, .slice 4, .slice 2, .slice 13, .slice 3, .int .i64, .int .i64, .slice 1, .slice 1, .slice 15, .slice 28, .slice 4, .slice 2, .slice 13, .slice 3, .bool, .int .i64, .slice 1, .slice 1, .slice 15, .slice 28, .slice 4, .slice 2, .slice 13, .slice 3]
@[reducible] def Qt1 : Type := Bool × Int × Int × Int × Int × Int × Int × Int × Int × Int × Int × Int × Bool × Int × Int × Int × Int × Int × Int × Int × Int × Int × Int × Int × Int × Int × Int × Int × Int × Int × Int × Int × Int × LL × Int × Int × Int × Int × Int × Int × Bool × LL × LL × LL × LL × Int × Int × LL × LL × LL × LL × LL × LL × LL × LL × Int × Int × LL × LL × LL × LL × LL × LL × LL × LL × Bool × Int × LL × LL × LL × LL × LL × LL × LL × LL
@[reducible] def Qt2 : Type := Int × Int × Int × Int × Int × Int × Int × Int × Int × Int × Int × Bool × Int × Int × Int × Int × Int × Int × Int × Int × Int × Int × Int × Int × Int × Int × Int × Int × Int × Int × Int × Int × LL × Int × Int × Int × Int × Int × Int × Bool × LL × LL × LL × LL × Int × Int × LL × LL × LL × LL × LL × LL × LL × LL × Int × Int × LL × LL × LL × LL × LL × LL × LL × LL × Bool × Int × LL × LL × LL × LL × LL × LL × LL × LL
@[reducible] def hs3 : List Sh := [.int .i64, .int .i64, .int .i64, .int .i64, .int .i64, .int .i64, .int .i64, .int .i64, .int .i64, .int .i64, .int .i64, .int .i64, .int .i64, .int .i64, .int .i64, .int .i64, .int .i64, .int .i64, .int .i64, .int .i64, .slice 3, .int .i64, .int .i64, .int .i64, .int .i64, .int .i64, .int .i64, .bool]
@[reducible] def hs4 : List Sh := [.int .i64, .int .i64, .slice 1, .slice 1, .slice 15, .slice 28, .slice 4, .slice 2, .slice 13, .slice 3, .bool, .int .i64, .slice 1, .slice 1, .slice 15, .slice 28, .slice 4, .slice 2, .slice 13, .slice 3]
@[reducible] def Qt5 : Type := Int × Int × Int × Int × Int × Int × Int × Int × Int × Int × Int × Int × Int × Int × Int × Int × Int × Int × Int × Int × LL × Int × Int × Int × Int × Int × Int × Bool
@[reducible] def hs6 : List Sh := [.int .i64, .int .i64, .int .i64, .slice 3, .int .i64, .int .i64, .int .i64, .int .i64, .int .i64, .int .i64, .bool, .int .i64, .int .i64, .int .i64, .int .i64]
@[reducible] def hs7 : List Sh := [.int .i64, .int .i64, .int .i64, .int .i64, .int .i64, .slice 3, .int .i64, .int .i64, .int .i64, .int .i64, .int .i64, .int .i64, .bool]
@[reducible] def hs8 : List Sh := [.int .i64, .int .i64, .int .i64, .slice 3, .int .i64, .int .i64, .int .i64, .int .i64, .int .i64, .int .i64, .bool]
@[reducible] def Qt9 : Type := Int × Int × Int × LL × Int × Int × Int × Int × Int × Int × Bool × Int × Int × Int × Int
@[reducible] def Qt10 : Type := Int × Int × Int × Int × Int × LL × Int × Int × Int × Int × Int × Int × Bool
@[reducible] def hs11 : List Sh := [.int .i64, .int .i64, .int .i64, .int .i64, .int .i64, .int .i64, .bool]
@[reducible] def hs12 : List Sh := [.slice 15, .slice 28, .slice 4, .slice 2, .slice 13, .slice 3]
@[reducible] def Qt13 : Type := Int × Int × Int × LL × Int × Int × Int × Int × Int × Int × Bool
structure Fn where
 nt : Nat
 res : List Nat
 keep : List (Nat × List (Nat × HP))
 pins : List Nat
 ng : Nat
 ex : List Nat
 fz : List (Nat × List (Nat × Nat))
 fn : Func
 A : List AP
 R : List RSh
 P : List (FuncId × Fun)
noncomputable def Fn.E (F : Fn) : Env := envG F.nt F.res F.keep F.pins F.ng F.ex F.fz
noncomputable def Fn.T (F : Fn) : STree := evFn Try.prog F.E F.fn (argsAt F.A 0) (apsN F.A)
noncomputable def Fn.S (F : Fn) : Fun := ⟨F.A, F.R, fun vs => F.T.run Try.prog F.P F.A F.R (fun _ _ => none) (envL vs)⟩
@[reducible] def r0 {γ : Type} : Nat → List V → Option γ := fun _ _ => none
noncomputable def Fn.lp (F : Fn) (p : List Nat) (lv : Nat) (ρ : Nat → List V → Option (ShsT (shsOf F.R F.A))) (k : Nat) (vs : List V) : Option (ShsT (shsOf F.R F.A)) := iterL (fun rec vs => STree.run Try.prog F.P F.A F.R (F.T.go p) (updR ρ lv rec) (bind zeroE 0 vs)) k vs
def Fn.chk (F : Fn) : Bool := !(F.fn.name == "runtime.NumGoroutine") && apsFine F.A
theorem plain_ok : PlainSound Try.prog plainG := plain_of (by kernel_rfl)
theorem mixed : Try.prog.follows .mixedOrders = true := by kernel_rfl
theorem Fn.ok (F : Fn) {f : FuncId} (hf : Try.prog.funcs[f]? = some F.fn) (hc : F.chk = true) (hP : OkAll Try.prog F.P) : F.S.Ok Try.prog f := by
 simp only [Fn.chk, Bool.and_eq_true, Bool.not_eq_true'] at hc
 exact fun_ok (Φ := F.P) (S := F.S) (E := F.E) mixed plain_ok hf hc.1 hc.2 rfl (T := F.T) rfl hP fun _ => rfl
end Go.Proofs.Ytljejgmcgddppaa
