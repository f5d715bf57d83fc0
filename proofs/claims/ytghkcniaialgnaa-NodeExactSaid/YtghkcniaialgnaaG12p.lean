/- What all trees of this seat are told. -/
import Derived.Test.YtghkcniaialgnaaAmIns
import Derived.Test.YtghkcniaialgnaaProg
import Derived.KernelRfl
namespace Go.Proofs.Ytghkcniaialgnaa
open Go Go.AM

def freshG : List (Nat × Nat) := [(33, 1), (34, 1), (35, 1), (36, 1), (24, 1), (8, 1), (12, 1)]
def consG : List (Nat × Nat) := [(35, 0)]
def plainG : List Nat := [25, 28]
def atG (l : List (Nat × Nat)) (i : Nat) : Nat := match l with | [] => 0 | (j, n) :: r => if i = j then n else atG r i
def fzOf (l : List (Nat × List (Nat × Nat))) (i : Nat) : List (Nat × Nat) := match l with | [] => [] | (j, n) :: r => if i = j then n else fzOf r i
def keepOf (k : List (Nat × List (Nat × HP))) (i : Nat) : List (Nat × HP) := match k with | [] => [] | (j, l) :: r => if i = j then l else keepOf r i
def envG (nt : Nat) (res : List Nat) (keep : List (Nat × List (Nat × HP))) (pins : List Nat) (ng : Nat) (ex : List Nat) (fz : List (Nat × List (Nat × Nat))) : Env := { nt, cons := fun f i => consG.contains (f, i), fresh := atG freshG, plain := plainG, res, keep := keepOf keep, pins, ng, ex, fz := fzOf fz }
structure Fn where
  nt : Nat
  res : List Nat
  keep : List (Nat × List (Nat × HP))
  pins : List Nat
  ng : Nat
  ex : List Nat
  fz : List (Nat × List (Nat × Nat))
  fn : Func
  A : List AP
  R : List RSh
  P : List (FuncId × Fun)

noncomputable def Fn.E (F : Fn) : Env := envG F.nt F.res F.keep F.pins F.ng F.ex F.fz
noncomputable def Fn.T (F : Fn) : STree := evFn Try.prog F.E F.fn (argsAt F.A 0) (apsN F.A)
noncomputable def Fn.S (F : Fn) : Fun := ⟨F.A, F.R, fun vs => F.T.run Try.prog F.P F.A F.R (fun _ _ => none) (envL vs)⟩
@[reducible] def r0 {γ : Type} : Nat → List V → Option γ := fun _ _ => none
noncomputable def Fn.lp (F : Fn) (p : List Nat) (lv : Nat) (ρ : Nat → List V → Option (ShsT (shsOf F.R F.A))) (k : Nat) (vs : List V) : Option (ShsT (shsOf F.R F.A)) := iterL (fun rec vs => STree.run Try.prog F.P F.A F.R (F.T.go p) (updR ρ lv rec) (bind zeroE 0 vs)) k vs
def Fn.chk (F : Fn) : Bool := !(F.fn.name == "runtime.NumGoroutine") && apsFine F.A
theorem plain_ok : PlainSound Try.prog plainG := plain_of (by kernel_rfl)
theorem mixed : Try.prog.follows .mixedOrders = true := by kernel_rfl
theorem Fn.ok (F : Fn) {f : FuncId} (hf : Try.prog.funcs[f]? = some F.fn) (hc : F.chk = true) (hP : OkAll Try.prog F.P) : F.S.Ok Try.prog f := by
  simp only [Fn.chk, Bool.and_eq_true, Bool.not_eq_true'] at hc
  exact fun_ok (Φ := F.P) (S := F.S) (E := F.E) mixed plain_ok hf hc.1 hc.2 rfl (T := F.T) rfl hP fun _ => rfl

end Go.Proofs.Ytghkcniaialgnaa
