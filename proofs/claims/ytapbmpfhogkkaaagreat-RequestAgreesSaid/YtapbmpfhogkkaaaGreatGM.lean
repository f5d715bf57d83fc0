/- What all trees of this seat are told. -/
import Derived.Test.YtapbmpfhogkkaaaGreatM4
import Derived.Test.YtapbmpfhogkkaaaGreatProg
import Derived.KernelRfl
namespace Go.Proofs.YtapbmpfhogkkaaaGreat
open Go Go.AM
def Zms:List (Nat×Nat):=[(24,1),(31,1),(58,1),(60,1),(80,1),(22,1),(9,1),(11,1),(73,2)]
def Zpq:List (Nat×Nat):=[]
def ZkP:List Nat:=[48,71]
def rbG:List (Nat×List Sh):=[(5,[.slice 1,.int .i64,.int .i64,.slice 3,.slice 1,.slice 13,.own true 103,.own true 4,.own true 4,.slice 2])]
def Zp4 (l:List (Nat×List Sh)) (i:Nat):Option (List Sh):=match l with | []=>none | (j,x)::r=>if i=j then some x else Zp4 r i
def atG (l:List (Nat×Nat)) (i:Nat):Nat:=match l with | []=>0 | (j,n)::r=>if i=j then n else atG r i
def ZpU (l:List (Nat×List (Nat×Nat))) (i:Nat):List (Nat×Nat):=match l with | []=>[] | (j,n)::r=>if i=j then n else ZpU r i
def ZkL (k:List (Nat×List (Nat×HP))) (i:Nat):List (Nat×HP):=match k with | []=>[] | (j,l)::r=>if i=j then l else ZkL r i
def Zqt (nt:Nat) (res:List Nat) (keep:List (Nat×List (Nat×HP))) (pins:List Nat) (ng:Nat) (ex:List Nat) (fz:List (Nat×List (Nat×Nat))):Env:={ nt,cons:=fun f i=>Zpq.contains (f,i),fresh:=atG Zms,plain:=ZkP,res,keep:=ZkL keep,pins,ng,ex,fz:=ZpU fz,rb:=Zp4 rbG }
@[reducible] def hs0:List Sh:=[.int .i64,.int .i64,.int .i64,.int .i64,.int .i64,.int .i64,.int .i64,.int .i64,.int .i64,.int .i64,.int .i64,.int .i64,.int .i64,.int .i64,.int .i64,.int .i64,.int .i64,.int .i64,.int .i64,.int .i64,.slice 3,.int .i64,.int .i64,.int .i64,.int .i64,.int .i64,.int .i64,.bool]
@[reducible] def Qt1:Type:=Int×Int×Int×Int×Int×Int×Int×Int×Int×Int×Int×Int×Int×Int×Int×Int×Int×Int×Int×Int×LL×Int×Int×Int×Int×Int×Int×Bool×LL×Int
@[reducible] def hs2:List Sh:=[.int .i64,.int .i64,.int .i64,.slice 3,.int .i64,.int .i64,.int .i64,.int .i64,.int .i64,.int .i64,.bool,.int .i64,.int .i64,.int .i64,.int .i64]
@[reducible] def hs3:List Sh:=[.int .i64,.int .i64,.int .i64,.int .i64,.int .i64,.slice 3,.int .i64,.int .i64,.int .i64,.int .i64,.int .i64,.int .i64,.bool]
@[reducible] def hs4:List Sh:=[.int .i64,.int .i64,.int .i64,.int .i64,.int .i64,.int .i64,.int .i64,.int .i64,.int .i64,.int .i64,.int .i64,.int .i64]
@[reducible] def Qt5:Type:=Int×Int×Int×LL×Int×Int×Int×Int×Int×Int×Bool×Bool×LL×Int×Int×LL×LL×LL×LL×LL×LL×LL
@[reducible] def hs6:List Sh:=[.int .i64,.int .i64,.int .i64,.slice 3,.int .i64,.int .i64,.int .i64,.int .i64,.int .i64,.int .i64,.bool]
@[reducible] def hs7:List Sh:=[.slice 1,.int .i64,.int .i64,.slice 3,.slice 1,.slice 13,.own true 103,.own true 4,.own true 4,.slice 2]
@[reducible] def hs8:List Sh:=[.int .i64,.int .i64,.int .i64,.int .i64,.int .i64,.int .i64,.int .i64,.int .i64,.int .i64,.int .i64]
@[reducible] def Qt9:Type:=Int×Int×Int×Int×Int×Int×Int×Bool×Int×LL×Int×Int×LL×LL×LL×LL×LL×LL×LL
@[reducible] def hs10:List Sh:=[.int .i64,.int .i64,.int .i64,.int .i64,.int .i64,.int .i64,.int .i64,.int .i64,.int .i64]
@[reducible] def hs11:List Sh:=[.int .i64,.int .i64,.int .i64,.int .i64,.int .i64,.int .i64,.int .i64,.bool,.int .i64]
@[reducible] def Qt12:Type:=Int×Int×Int×LL×Int×Int×Int×Int×Int×Int×Bool×Int×Int×Int×Int
@[reducible] def Qt13:Type:=Int×Int×Int×Int×Int×LL×Int×Int×Int×Int×Int×Int×Bool
@[reducible] def hs14:List Sh:=[.int .i64,.int .i64,.int .i64,.int .i64,.int .i64,.int .i64,.bool]
@[reducible] def Qt15:Type:=Int×Int×Int×Int×Int×Int×Int×Int×Int×Int×Int×Int
@[reducible] def Qt16:Type:=Int×Int×Int×LL×Int×Int×Int×Int×Int×Int×Bool×Int
@[reducible] def hs17:List Sh:=[.int .i64,.int .i64,.int .i64,.int .i64,.int .i64,.int .i64]
@[reducible] def hs18:List Sh:=[.int .i64,.int .i64,.int .i64,.int .i64,.slice 3,.slice 1]
@[reducible] def Qt19:Type:=Int×Int×Int×LL×Int×Int×Int×Int×Int×Int×Bool
@[reducible] def Qt20:Type:=Bool×LL×Int×Int×LL×LL×LL×LL×LL×LL×LL
@[reducible] def Qt21:Type:=Int×LL×Int×Int×LL×LL×LL×LL×LL×LL×LL
@[reducible] def Qt22:Type:=LL×LL×Int×Int×LL×LL×LL×LL×LL×LL×LL
@[reducible] def Qt23:Type:=LL×Int×Int×LL×LL×LL×LL×LL×LL×LL
@[reducible] def Qt24:Type:=Int×Int×Int×Int×Int×Int×Bool
@[reducible] def Qt25:Type:=Int×Int×Int×Int×LL×LL×Int
@[reducible] def Qt26:Type:=Int×Int×Int×Int×Int×Int
structure Fn where
 nt:Nat
 res:List Nat
 keep:List (Nat×List (Nat×HP))
 pins:List Nat
 ng:Nat
 ex:List Nat
 fz:List (Nat×List (Nat×Nat))
 fn:Func
 A:List AP
 R:List RSh
 P:List (FuncId×Fun)
noncomputable def Fn.E (F:Fn):Env:=Zqt F.nt F.res F.keep F.pins F.ng F.ex F.fz
noncomputable def Fn.T (F:Fn):STree:=Zoy Tryz.prog F.E F.fn (VD F.A 0) (Zl7 F.A)
noncomputable def Fn.S (F:Fn):Fun:=⟨F.A,F.R,fun vs=>F.T.run Tryz.prog F.P F.A F.R (fun _ _=>none) (Zon vs)⟩
@[reducible] def r0 {γ:Type} : Nat→List V→Option γ:=fun _ _=>none
noncomputable def Fn.lp (F:Fn) (p:List Nat) (lv:Nat) (ρ:Nat→List V→Option (ShsT (Wi F.R F.A))) (k:Nat) (vs:List V):Option (ShsT (Wi F.R F.A)):=Zbh (fun rec vs=>STree.run Tryz.prog F.P F.A F.R (F.T.go p) (Zke ρ lv rec) (bind Zc9 0 vs)) k vs
def Fn.chk (F : Fn) : Bool := !(F.fn.name == "runtime.NumGoroutine") && apsFine F.A
theorem Zkh:PlainSound Tryz.prog ZkP:=ZjA (by kernel_rfl)
theorem ZnR:Tryz.prog.follows .mixedOrders=true:=by kernel_rfl
theorem Fn.ok (F:Fn) {f:FuncId} (hf:Tryz.prog.funcs[f]? = some F.fn) (hc:F.chk=true) (hP:Zie Tryz.prog F.P):F.S.Ok Tryz.prog f:=by
 simp only [Fn.chk,Bool.and_eq_true,Bool.not_eq_true'] at hc
 exact fun_ok (Φ:=F.P) (S:=F.S) (E:=F.E) ZnR Zkh hf hc.1 hc.2 rfl (T:=F.T) rfl hP fun _=>rfl
end Go.Proofs.YtapbmpfhogkkaaaGreat
