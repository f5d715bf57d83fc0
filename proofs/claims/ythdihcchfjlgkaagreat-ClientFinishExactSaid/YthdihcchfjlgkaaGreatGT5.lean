/- What all trees of this seat are told. -/
import Derived.Test.YthdihcchfjlgkaaGreatM4
import Derived.Test.YthdihcchfjlgkaaGreatProg
import Derived.KernelRfl
namespace Go.Proofs.YthdihcchfjlgkaaGreat
open Go Go.AM
def Zvg:List (Nat×Nat):=[(75,1),(74,2),(70,2),(43,2),(73,2),(42,2),(45,2),(81,2),(82,1),(47,2),(56,1),(17,1),(15,2),(108,1),(63,1),(36,2),(41,1),(12,2),(27,1),(28,1),(148,1),(89,1)]
def ZxI:List (Nat×Nat):=[(45,0),(41,0),(41,2),(14,0)]
def ZpR:List Nat:=[25,28,31,74,88,95,97]
def atG (l:List (Nat×Nat)) (i:Nat):Nat:=match l with | []=>0 | (j,n) :: r=>if i=j then n else atG r i
def ZzM (l:List (Nat×List (Nat×Nat))) (i:Nat):List (Nat×Nat):=match l with | []=>[] | (j,n) :: r=>if i=j then n else ZzM r i
def ZpN (k:List (Nat×List (Nat×HP))) (i:Nat):List (Nat×HP):=match k with | []=>[] | (j,l) :: r=>if i=j then l else ZpN r i
def ZA5 (nt:Nat) (res:List Nat) (keep:List (Nat×List (Nat×HP))) (pins:List Nat) (ng:Nat) (ex:List Nat) (fz:List (Nat×List (Nat×Nat))):Env:={ nt,cons:=fun f i=>ZxI.contains (f,i),fresh:=atG Zvg,plain:=ZpR,res,keep:=ZpN keep,pins,ng,ex,fz:=ZzM fz }
@[reducible] def hs0:List Sh:=[.int .i64,.int .i64,.int .i64,.int .i64,.int .i64,.int .i64,.int .i64,.int .i64,.int .i64,.int .i64,.int .i64,.bool,.int .i64,.int .i64,.int .i64,.int .i64,.int .i64,.int .i64,.int .i64,.int .i64,.int .i64,.int .i64,.int .i64,.int .i64,.int .i64,.int .i64,.int .i64,.int .i64,.int .i64,.int .i64,.int .i64,.int .i64,.slice 3,.int .i64,.int .i64,.int .i64,.int .i64,.int .i64,.int .i64,.bool,.slice 3,.slice 11,.slice 1,.slice 2,.int .i64,.int .i64,.slice 1,.slice 1,.slice 15,.slice 28,.slice 4,.slice 2,.slice 13,.slice 3,.int .i64,.int .i64,.slice 1,.slice 1,.slice 15,.slice 28,.slice 4,.slice 2,.slice 13,.slice 3,.bool,.int .i64,.slice 1,.slice 1,.slice 15,.slice 28,.slice 4,.slice 2,.slice 13,.slice 3]
@[reducible] def Qt1:Type:=Bool×Int×Int×Int×Int×Int×Int×Int×Int×Int×Int×Int×Bool×Int×Int×Int×Int×Int×Int×Int×Int×Int×Int×Int×Int×Int×Int×Int×Int×Int×Int×Int×Int×LL×Int×Int×Int×Int×Int×Int×Bool×LL×LL×LL×LL×Int×Int×LL×LL×LL×LL×LL×LL×LL×LL×Int×Int×LL×LL×LL×LL×LL×LL×LL×LL×Bool×Int×LL×LL×LL×LL×LL×LL×LL×LL
@[reducible] def Qt2:Type:=Int×Int×Int×Int×Int×Int×Int×Int×Int×Int×Int×Bool×Int×Int×Int×Int×Int×Int×Int×Int×Int×Int×Int×Int×Int×Int×Int×Int×Int×Int×Int×Int×LL×Int×Int×Int×Int×Int×Int×Bool×LL×LL×LL×LL×Int×Int×LL×LL×LL×LL×LL×LL×LL×LL×Int×Int×LL×LL×LL×LL×LL×LL×LL×LL×Bool×Int×LL×LL×LL×LL×LL×LL×LL×LL
@[reducible] def hs3:List Sh:=[.int .i64,.int .i64,.int .i64,.int .i64,.int .i64,.int .i64,.int .i64,.int .i64,.int .i64,.int .i64,.int .i64,.int .i64,.int .i64,.int .i64,.int .i64,.int .i64,.int .i64,.int .i64,.int .i64,.int .i64,.slice 3,.int .i64,.int .i64,.int .i64,.int .i64,.int .i64,.int .i64,.bool]
@[reducible] def hs4:List Sh:=[.int .i64,.int .i64,.slice 1,.slice 1,.slice 15,.slice 28,.slice 4,.slice 2,.slice 13,.slice 3,.bool,.int .i64,.slice 1,.slice 1,.slice 15,.slice 28,.slice 4,.slice 2,.slice 13,.slice 3]
@[reducible] def Qt7:Type:=Int×Int×Int×Int×Int×Int×Int×Int×Int×Int×Int×Int×Int×Int×Int×Int×Int×Int×Int×Int×LL×Int×Int×Int×Int×Int×Int×Bool
@[reducible] def hs8:List Sh:=[.int .i64,.int .i64,.int .i64,.slice 3,.int .i64,.int .i64,.int .i64,.int .i64,.int .i64,.int .i64,.bool,.int .i64,.int .i64,.int .i64,.int .i64]
@[reducible] def hs9:List Sh:=[.int .i64,.int .i64,.int .i64,.int .i64,.int .i64,.slice 3,.int .i64,.int .i64,.int .i64,.int .i64,.int .i64,.int .i64,.bool]
@[reducible] def hs10:List Sh:=[.int .i64,.int .i64,.int .i64,.slice 3,.int .i64,.int .i64,.int .i64,.int .i64,.int .i64,.int .i64,.bool]
@[reducible] def Qt11:Type:=Int×Int×LL×LL×LL×LL×LL×LL×LL×LL×Bool×Int×LL×LL×LL×LL×LL×LL×LL×LL
@[reducible] def hs12:List Sh:=[.bool,.int .i64,.int .i64,.int .i64,.int .i64,.int .i64,.int .i64,.int .i64,.int .i64,.bool]
@[reducible] def Qt13:Type:=Int×Int×Int×LL×Int×Int×Int×Int×Int×Int×Bool×Int×Int×Int×Int
@[reducible] def Qt14:Type:=Int×Int×Int×Int×Int×LL×Int×Int×Int×Int×Int×Int×Bool
@[reducible] def Qt15:Type:=LL×Int×Int×Int×LL×Int×Int×Int×Int×Int×Int×Bool×Bool
@[reducible] def hs16:List Sh:=[.int .i64,.int .i64,.int .i64,.int .i64,.int .i64,.int .i64,.bool]
@[reducible] def Qt17:Type:=Int×Int×Int×LL×Int×Int×Int×Int×Int×Int×Bool×Int
@[reducible] def hs18:List Sh:=[.own true 62,.slice 28,.slice 4,.slice 2,.slice 13,.slice 3]
@[reducible] def hs19:List Sh:=[.slice 15,.slice 28,.slice 4,.slice 2,.slice 13,.slice 3]
@[reducible] def Qt20:Type:=Int×Int×Int×LL×Int×Int×Int×Int×Int×Int×Bool
@[reducible] def Qt21:Type:=Int×Int×Int×Int×Int×Int×Bool
@[reducible] def Qt22:Type:=LL×LL×LL×LL×LL×LL
structure Fn where
 nt:Nat
 res:List Nat
 keep:List (Nat×List (Nat×HP))
 pins:List Nat
 ng:Nat
 ex:List Nat
 fz:List (Nat×List (Nat×Nat))
 fn:Func
 A:List AP
 R:List RSh
 P:List (FuncId×Fun)
noncomputable def Fn.E (F:Fn):Env:=ZA5 F.nt F.res F.keep F.pins F.ng F.ex F.fz
noncomputable def Fn.T (F:Fn):STree:=ZwY Tryz.prog F.E F.fn (Za4 F.A 0) (ZsH F.A)
noncomputable def Fn.S (F:Fn):Fun:=⟨F.A,F.R,fun vs=>F.T.run Tryz.prog F.P F.A F.R (fun _ _=>none) (ZuW vs)⟩
@[reducible] def r0 {γ:Type} : Nat→List V→Option γ:=fun _ _=>none
noncomputable def Fn.lp (F:Fn) (p:List Nat) (lv:Nat) (ρ:Nat→List V→Option (ShsT (Zbo F.R F.A))) (k:Nat) (vs:List V):Option (ShsT (Zbo F.R F.A)):=ZdW (fun rec vs=>STree.run Tryz.prog F.P F.A F.R (F.T.go p) (ZsL ρ lv rec) (bind Zf6 0 vs)) k vs
def Fn.chk (F : Fn) : Bool := !(F.fn.name == "runtime.NumGoroutine") && apsFine F.A
theorem Zog:PlainSound Tryz.prog ZpR:=Zoc (by kernel_rfl)
theorem mixed:Tryz.prog.follows .mixedOrders=true:=by kernel_rfl
theorem Fn.ok (F:Fn) {f:FuncId} (hf:Tryz.prog.funcs[f]? = some F.fn) (hc:F.chk=true) (hP:Zm5 Tryz.prog F.P):F.S.Ok Tryz.prog f:=by
 simp only [Fn.chk,Bool.and_eq_true,Bool.not_eq_true'] at hc
 exact fun_ok (Φ:=F.P) (S:=F.S) (E:=F.E) mixed Zog hf hc.1 hc.2 rfl (T:=F.T) rfl hP fun _=>rfl
end Go.Proofs.YthdihcchfjlgkaaGreat
