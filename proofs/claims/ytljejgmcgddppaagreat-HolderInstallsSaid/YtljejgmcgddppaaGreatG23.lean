/- What all trees of this seat are told. -/
import Derived.Test.YtljejgmcgddppaaGreatM4
import Derived.Test.YtljejgmcgddppaaGreatProg
import Derived.KernelRfl
namespace Go.Proofs.YtljejgmcgddppaaGreat
open Go Go.AM
def Ztb:List (Nat×Nat):=[(65,1),(53,1),(16,2),(58,1),(59,1),(60,1),(61,1),(63,2),(109,2),(38,2),(39,2),(73,2),(74,2),(42,2),(43,2),(77,1),(44,1),(45,2),(12,1),(142,1),(83,1),(14,2),(31,1),(32,1)]
def ZwU:List (Nat×Nat):=[(74,0),(42,0),(77,0),(77,2),(44,0)]
def ZpF:List Nat:=[37,40,42,62,77,91,98]
def atG (l:List (Nat×Nat)) (i:Nat):Nat:=match l with | []=>0 | (j,n) :: r=>if i=j then n else atG r i
def Zy0 (l:List (Nat×List (Nat×Nat))) (i:Nat):List (Nat×Nat):=match l with | []=>[] | (j,n) :: r=>if i=j then n else Zy0 r i
def ZpK (k:List (Nat×List (Nat×HP))) (i:Nat):List (Nat×HP):=match k with | []=>[] | (j,l) :: r=>if i=j then l else ZpK r i
def Zz2 (nt:Nat) (res:List Nat) (keep:List (Nat×List (Nat×HP))) (pins:List Nat) (ng:Nat) (ex:List Nat) (fz:List (Nat×List (Nat×Nat))):Env:={ nt,cons:=fun f i=>ZwU.contains (f,i),fresh:=atG Ztb,plain:=ZpF,res,keep:=ZpK keep,pins,ng,ex,fz:=Zy0 fz }
@[reducible] def hs0:List Sh:=[.int .i64,.int .i64,.int .i64,.int .i64,.int .i64,.int .i64,.int .i64,.int .i64,.int .i64,.int .i64,.int .i64,.bool,.int .i64,.int .i64,.int .i64,.int .i64,.int .i64,.int .i64,.int .i64,.int .i64,.int .i64,.int .i64,.int .i64,.int .i64,.int .i64,.int .i64,.int .i64,.int .i64,.int .i64,.int .i64,.int .i64,.int .i64,.slice 3,.int .i64,.int .i64,.int .i64,.int .i64,.int .i64,.int .i64,.bool,.slice 3,.slice 11,.slice 1,.slice 2,.int .i64,.int .i64,.slice 1,.slice 1,.slice 15,.slice 28,.slice 4,.slice 2,.slice 13,.slice 3,.int .i64,.int .i64,.slice 1,.slice 1,.slice 15,.slice 28,.slice 4,.slice 2,.slice 13,.slice 3,.bool,.int .i64,.slice 1,.slice 1,.slice 15,.slice 28,.slice 4,.slice 2,.slice 13,.slice 3]
@[reducible] def Qt1:Type:=Bool×Int×Int×Int×Int×Int×Int×Int×Int×Int×Int×Int×Bool×Int×Int×Int×Int×Int×Int×Int×Int×Int×Int×Int×Int×Int×Int×Int×Int×Int×Int×Int×Int×LL×Int×Int×Int×Int×Int×Int×Bool×LL×LL×LL×LL×Int×Int×LL×LL×LL×LL×LL×LL×LL×LL×Int×Int×LL×LL×LL×LL×LL×LL×LL×LL×Bool×Int×LL×LL×LL×LL×LL×LL×LL×LL
@[reducible] def Qt2:Type:=Int×Int×Int×Int×Int×Int×Int×Int×Int×Int×Int×Bool×Int×Int×Int×Int×Int×Int×Int×Int×Int×Int×Int×Int×Int×Int×Int×Int×Int×Int×Int×Int×LL×Int×Int×Int×Int×Int×Int×Bool×LL×LL×LL×LL×Int×Int×LL×LL×LL×LL×LL×LL×LL×LL×Int×Int×LL×LL×LL×LL×LL×LL×LL×LL×Bool×Int×LL×LL×LL×LL×LL×LL×LL×LL
@[reducible] def hs3:List Sh:=[.int .i64,.int .i64,.int .i64,.int .i64,.int .i64,.int .i64,.int .i64,.int .i64,.int .i64,.int .i64,.int .i64,.int .i64,.int .i64,.int .i64,.int .i64,.int .i64,.int .i64,.int .i64,.int .i64,.int .i64,.slice 3,.int .i64,.int .i64,.int .i64,.int .i64,.int .i64,.int .i64,.bool]
@[reducible] def hs4:List Sh:=[.int .i64,.int .i64,.slice 1,.slice 1,.slice 15,.slice 28,.slice 4,.slice 2,.slice 13,.slice 3,.bool,.int .i64,.slice 1,.slice 1,.slice 15,.slice 28,.slice 4,.slice 2,.slice 13,.slice 3]
@[reducible] def Qt5:Type:=Int×Int×Int×Int×Int×Int×Int×Int×Int×Int×Int×Int×Int×Int×Int×Int×Int×Int×Int×Int×LL×Int×Int×Int×Int×Int×Int×Bool
@[reducible] def hs6:List Sh:=[.int .i64,.int .i64,.int .i64,.slice 3,.int .i64,.int .i64,.int .i64,.int .i64,.int .i64,.int .i64,.bool,.int .i64,.int .i64,.int .i64,.int .i64]
@[reducible] def hs7:List Sh:=[.int .i64,.int .i64,.int .i64,.int .i64,.int .i64,.slice 3,.int .i64,.int .i64,.int .i64,.int .i64,.int .i64,.int .i64,.bool]
@[reducible] def hs8:List Sh:=[.int .i64,.int .i64,.int .i64,.slice 3,.int .i64,.int .i64,.int .i64,.int .i64,.int .i64,.int .i64,.bool]
@[reducible] def hs9:List Sh:=[.bool,.int .i64,.int .i64,.int .i64,.int .i64,.int .i64,.int .i64,.int .i64,.int .i64,.bool]
@[reducible] def Qt10:Type:=Int×Int×LL×LL×LL×LL×LL×LL×LL×LL×Bool×Int×LL×LL×LL×LL×LL×LL×LL×LL
@[reducible] def Qt11:Type:=Int×Int×Int×LL×Int×Int×Int×Int×Int×Int×Bool×Int×Int×Int×Int
@[reducible] def Qt12:Type:=Int×Int×Int×Int×Int×LL×Int×Int×Int×Int×Int×Int×Bool
@[reducible] def hs13:List Sh:=[.int .i64,.int .i64,.int .i64,.int .i64,.int .i64,.int .i64,.bool]
@[reducible] def Qt14:Type:=Int×Int×Int×LL×Int×Int×Int×Int×Int×Int×Bool×Int
@[reducible] def hs15:List Sh:=[.own true 60,.slice 28,.slice 4,.slice 2,.slice 13,.slice 3]
@[reducible] def hs16:List Sh:=[.slice 15,.slice 28,.slice 4,.slice 2,.slice 13,.slice 3]
@[reducible] def Qt17:Type:=Int×Int×Int×LL×Int×Int×Int×Int×Int×Int×Bool
@[reducible] def Qt18:Type:=Int×Int×Int×Int×Int×Int×Bool
@[reducible] def Qt19:Type:=LL×LL×LL×LL×LL×LL
structure Fn where
 nt:Nat
 res:List Nat
 keep:List (Nat×List (Nat×HP))
 pins:List Nat
 ng:Nat
 ex:List Nat
 fz:List (Nat×List (Nat×Nat))
 fn:Func
 A:List AP
 R:List RSh
 P:List (FuncId×Fun)
noncomputable def Fn.E (F:Fn):Env:=Zz2 F.nt F.res F.keep F.pins F.ng F.ex F.fz
noncomputable def Fn.T (F:Fn):STree:=ZvV Tryz.prog F.E F.fn (ZaB F.A 0) (Zsm F.A)
noncomputable def Fn.S (F:Fn):Fun:=⟨F.A,F.R,fun vs=>F.T.run Tryz.prog F.P F.A F.R (fun _ _=>none) (Zut vs)⟩
@[reducible] def r0 {γ:Type} : Nat→List V→Option γ:=fun _ _=>none
noncomputable def Fn.lp (F:Fn) (p:List Nat) (lv:Nat) (ρ:Nat→List V→Option (ShsT (Zbu F.R F.A))) (k:Nat) (vs:List V):Option (ShsT (Zbu F.R F.A)):=Zd2 (fun rec vs=>STree.run Tryz.prog F.P F.A F.R (F.T.go p) (Zsi ρ lv rec) (bind ZgA 0 vs)) k vs
def Fn.chk (F : Fn) : Bool := !(F.fn.name == "runtime.NumGoroutine") && apsFine F.A
theorem ZoA:PlainSound Tryz.prog ZpF:=Zpb (by kernel_rfl)
theorem mixed:Tryz.prog.follows .mixedOrders=true:=by kernel_rfl
theorem Fn.ok (F:Fn) {f:FuncId} (hf:Tryz.prog.funcs[f]? = some F.fn) (hc:F.chk=true) (hP:Zmd Tryz.prog F.P):F.S.Ok Tryz.prog f:=by
 simp only [Fn.chk,Bool.and_eq_true,Bool.not_eq_true'] at hc
 exact fun_ok (Φ:=F.P) (S:=F.S) (E:=F.E) mixed ZoA hf hc.1 hc.2 rfl (T:=F.T) rfl hP fun _=>rfl
end Go.Proofs.YtljejgmcgddppaaGreat
