import Derived.Test.YtnkmbgbpkgmbnaaGreatM4
import Derived.Test.YtnkmbgbpkgmbnaaGreatProg
import Derived.KernelRfl
open Bool renaming true→Xc
set_option linter.unusedVariables false
set_option linter.unusedSimpArgs false
set_option linter.defProp false
namespace Go.Proofs.YtnkmbgbpkgmbnaaGreat
open Go Go.AM
def ZvU:List (Nat×Nat):=[(87,2),(101,1),(45,2),(59,1),(94,1),(48,1),(129,1),(130,1),(172,1),(131,1),(132,1),(133,1),(98,2),(50,2),(135,1),(85,1),(84,2),(43,1),(13,1),(88,1),(97,2),(15,1),(62,1),(22,1),(8,1),(10,1),(115,2)]
def ZyP:List (Nat×Nat):=[(59,0),(59,2),(94,0),(84,0),(97,0)]
def Zqo:List Nat:=[39,45,48,114]
def rbG:List (Nat×List Sh):=[(5,[.int .i64,.int .i64,.int .i64,.bool,.slice 13,.own Xc 56,.int .i64,.int .i64,.int .i64,.int .i64,.int .i64,.int .i64,.int .i64,.int .i64,.int .i64,.int .i64,.int .i64,.int .i64,.int .i64,.int .i64,.int .i64,.int .i64,.int .i64,.int .i64,.int .i64,.int .i64,.slice 3,.int .i64,.int .i64,.int .i64,.int .i64,.int .i64,.int .i64,.bool,.int .i64,.own Xc 3,.slice 1,.slice 3]),(4,[.slice 1,.int .i64,.int .i64,.slice 3,.slice 1,.slice 13,.own Xc 149,.own Xc 4,.own Xc 4,.slice 2])]
def ZCe:List (Nat×Nat):=[(39,0),(79,0),(98,0)]
def ksG:List (Nat×Nat×Nat):=[(178,(177,198))]
def Zz7 (l:List (Nat×List Sh)) (i:Nat):Option (List Sh):=match l with | []=>none | (j,x)::r=>if i=j then some x else Zz7 r i
def atG (l:List (Nat×Nat)) (i:Nat):Nat:=match l with | []=>0 | (j,n)::r=>if i=j then n else atG r i
def ZAy (l:List (Nat×List (Nat×Nat))) (i:Nat):List (Nat×Nat):=match l with | []=>[] | (j,n)::r=>if i=j then n else ZAy r i
def ZpZ (k:List (Nat×List (Nat×HP))) (i:Nat):List (Nat×HP):=match k with | []=>[] | (j,l)::r=>if i=j then l else ZpZ r i
def ZBF (nt:Nat) (res:List Nat) (keep:List (Nat×List (Nat×HP))) (pins:List Nat) (ng:Nat) (ex:List Nat) (fz:List (Nat×List (Nat×Nat))):Env:={ nt,cons:=fun f i=>ZyP.contains (f,i),fresh:=atG ZvU,plain:=Zqo,res,keep:=ZpZ keep,pins,ng,ex,fz:=ZAy fz,rb:=Zz7 rbG,rfs:=fun f=>(ZCe.filter fun p=>p.1 == f).map (·.2),ks:=ksG }
@[reducible] def hs0:List Sh:=[.int .i64,.int .i64,.int .i64,.int .i64,.int .i64,.int .i64,.int .i64,.int .i64,.int .i64,.int .i64,.int .i64,.bool,.int .i64,.int .i64,.int .i64,.int .i64,.int .i64,.int .i64,.int .i64,.int .i64,.int .i64,.int .i64,.int .i64,.int .i64,.int .i64,.int .i64,.int .i64,.int .i64,.int .i64,.int .i64,.int .i64,.int .i64,.slice 3,.int .i64,.int .i64,.int .i64,.int .i64,.int .i64,.int .i64,.bool,.slice 3,.slice 11,.slice 1,.slice 2,.int .i64,.int .i64,.slice 1,.slice 1,.slice 15,.slice 28,.slice 4,.slice 2,.slice 13,.slice 3,.int .i64,.int .i64,.slice 1,.slice 1,.slice 15,.slice 28,.slice 4,.slice 2,.slice 13,.slice 3,.bool,.int .i64,.slice 1,.slice 1,.slice 15,.slice 28,.slice 4,.slice 2,.slice 13,.slice 3]
@[reducible] def Qt1:Type:=Int×Int×Int×Int×Int×Int×Int×Int×Int×Int×Int×Bool×Int×Int×Int×Int×Int×Int×Int×Int×Int×Int×Int×Int×Int×Int×Int×Int×Int×Int×Int×Int×LL×Int×Int×Int×Int×Int×Int×Bool×LL×LL×LL×LL×Int×Int×LL×LL×LL×LL×LL×LL×LL×LL×Int×Int×LL×LL×LL×LL×LL×LL×LL×LL×Bool×Int×LL×LL×LL×LL×LL×LL×LL×LL×Int×Bool×Int×Int×Int×Bool×LL×LL×Int×Int×Int×Int×Int×Int×Int×Int×Int×Int×Int×Int×Int×Int×Int×Int×Int×Int×Int×Int×LL×Int×Int×Int×Int×Int×Int×Bool×Int×LL×LL×LL
@[reducible] def Qt2:Type:=Int×Int×Int×Int×Int×Int×Int×Int×Int×Int×Int×Bool×Int×Int×Int×Int×Int×Int×Int×Int×Int×Int×Int×Int×Int×Int×Int×Int×Int×Int×Int×Int×LL×Int×Int×Int×Int×Int×Int×Bool×LL×LL×LL×LL×Int×Int×LL×LL×LL×LL×LL×LL×LL×LL×Int×Int×LL×LL×LL×LL×LL×LL×LL×LL×Bool×Int×LL×LL×LL×LL×LL×LL×LL×LL×Int×Int×Int×Bool×LL×LL×Int×Int×Int×Int×Int×Int×Int×Int×Int×Int×Int×Int×Int×Int×Int×Int×Int×Int×Int×Int×LL×Int×Int×Int×Int×Int×Int×Bool×Int×LL×LL×LL
@[reducible] def Qt4:Type:=Int×Int×Int×Int×Int×Int×Int×Int×Int×Int×Int×Bool×Int×Int×Int×Int×Int×Int×Int×Int×Int×Int×Int×Int×Int×Int×Int×Int×Int×Int×Int×Int×LL×Int×Int×Int×Int×Int×Int×Bool×LL×LL×LL×LL×Int×Int×LL×LL×LL×LL×LL×LL×LL×LL×Int×Int×LL×LL×LL×LL×LL×LL×LL×LL×Bool×Int×LL×LL×LL×LL×LL×LL×LL×LL
@[reducible] def hs5:List Sh:=[.int .i64,.int .i64,.int .i64,.bool,.slice 13,.own Xc 56,.int .i64,.int .i64,.int .i64,.int .i64,.int .i64,.int .i64,.int .i64,.int .i64,.int .i64,.int .i64,.int .i64,.int .i64,.int .i64,.int .i64,.int .i64,.int .i64,.int .i64,.int .i64,.int .i64,.int .i64,.slice 3,.int .i64,.int .i64,.int .i64,.int .i64,.int .i64,.int .i64,.bool,.int .i64,.own Xc 3,.slice 1,.slice 3]
@[reducible] def Qt6:Type:=Bool×Int×Int×Int×Bool×LL×LL×Int×Int×Int×Int×Int×Int×Int×Int×Int×Int×Int×Int×Int×Int×Int×Int×Int×Int×Int×Int×LL×Int×Int×Int×Int×Int×Int×Bool×Int×LL×LL×LL×Int×Int×Int×Int×Int×Int×Int×Int×Int×Int×Int×Int×Int×Int×Int×Int×Int×Int×Int×Int×LL×Int×Int×Int×Int×Int×Int×Bool
@[reducible] def Qt7:Type:=Int×Int×Int×Int×Bool×LL×LL×Int×Int×Int×Int×Int×Int×Int×Int×Int×Int×Int×Int×Int×Int×Int×Int×Int×Int×Int×Int×LL×Int×Int×Int×Int×Int×Int×Bool×Int×LL×LL×LL×Int×Int×Int×Int×Int×Int×Int×Int×Int×Int×Int×Int×Int×Int×Int×Int×Int×Int×Int×Int×LL×Int×Int×Int×Int×Int×Int×Bool
@[reducible] def Qt8:Type:=Int×Int×Int×Int×Int×Int×Int×Int×Int×Int×Int×Int×Int×Int×Int×Int×Int×Int×Int×Int×LL×Int×Int×Int×Int×Int×Int×Bool×Int×Int×Int×Int×Bool×LL×LL×Int×Int×Int×Int×Int×Int×Int×Int×Int×Int×Int×Int×Int×Int×Int×Int×Int×Int×Int×Int×LL×Int×Int×Int×Int×Int×Int×Bool×Int×LL×LL×LL
@[reducible] def hs9:List Sh:=[.int .i64,.int .i64,.int .i64,.int .i64,.int .i64,.int .i64,.int .i64,.int .i64,.int .i64,.int .i64,.int .i64,.int .i64,.int .i64,.int .i64,.int .i64,.int .i64,.int .i64,.int .i64,.int .i64,.int .i64,.slice 3,.int .i64,.int .i64,.int .i64,.int .i64,.int .i64,.int .i64,.bool]
@[reducible] def Qt10:Type:=Int×Int×Int×LL×Int×Int×Int×Int×Int×Int×Bool×Bool×Int×Int×Int×Bool×LL×LL×Int×Int×Int×Int×Int×Int×Int×Int×Int×Int×Int×Int×Int×Int×Int×Int×Int×Int×Int×Int×LL×Int×Int×Int×Int×Int×Int×Bool×Int×LL×LL×LL
@[reducible] def Qt11:Type:=LL×Int×Int×Int×Int×Bool×LL×LL×Int×Int×Int×Int×Int×Int×Int×Int×Int×Int×Int×Int×Int×Int×Int×Int×Int×Int×Int×Int×LL×Int×Int×Int×Int×Int×Int×Bool×Int×LL×LL×LL
@[reducible] def Qt12:Type:=LL×LL×Int×Int×Int×Bool×LL×LL×Int×Int×Int×Int×Int×Int×Int×Int×Int×Int×Int×Int×Int×Int×Int×Int×Int×Int×Int×Int×LL×Int×Int×Int×Int×Int×Int×Bool×Int×LL×LL×LL
@[reducible] def Qt13:Type:=Bool×Int×Int×Int×Bool×LL×LL×Int×Int×Int×Int×Int×Int×Int×Int×Int×Int×Int×Int×Int×Int×Int×Int×Int×Int×Int×Int×LL×Int×Int×Int×Int×Int×Int×Bool×Int×LL×LL×LL
@[reducible] def Qt14:Type:=LL×Int×Int×Int×Bool×LL×LL×Int×Int×Int×Int×Int×Int×Int×Int×Int×Int×Int×Int×Int×Int×Int×Int×Int×Int×Int×Int×LL×Int×Int×Int×Int×Int×Int×Bool×Int×LL×LL×LL
@[reducible] def Qt15:Type:=Int×Int×Int×Bool×LL×LL×Int×Int×Int×Int×Int×Int×Int×Int×Int×Int×Int×Int×Int×Int×Int×Int×Int×Int×Int×Int×LL×Int×Int×Int×Int×Int×Int×Bool×Int×LL×LL×LL
@[reducible] def hs16:List Sh:=[.int .i64,.int .i64,.slice 1,.slice 1,.slice 15,.slice 28,.slice 4,.slice 2,.slice 13,.slice 3,.bool,.int .i64,.slice 1,.slice 1,.slice 15,.slice 28,.slice 4,.slice 2,.slice 13,.slice 3]
@[reducible] def Qt17:Type:=Int×Int×Int×Int×Int×Int×Int×Int×Int×Int×Int×Int×Int×Int×Int×Int×Int×Int×Int×Int×LL×Int×Int×Int×Int×Int×Int×Bool×LL×Int
@[reducible] def Qt18:Type:=Bool×Int×Int×Int×Int×Int×Int×Int×Int×Int×Int×Int×Int×Int×Int×Int×Int×Int×Int×Int×Int×LL×Int×Int×Int×Int×Int×Int×Bool
@[reducible] def Qt19:Type:=Int×Int×Int×Int×Int×Int×Int×Int×Int×Int×Int×Int×Int×Int×Int×Int×Int×Int×Int×Int×LL×Int×Int×Int×Int×Int×Int×Bool
@[reducible] def hs20:List Sh:=[.int .i64,.int .i64,.int .i64,.slice 3,.int .i64,.int .i64,.int .i64,.int .i64,.int .i64,.int .i64,.bool,.int .i64,.int .i64,.int .i64,.int .i64]
@[reducible] def hs21:List Sh:=[.int .i64,.int .i64,.int .i64,.int .i64,.int .i64,.slice 3,.int .i64,.int .i64,.int .i64,.int .i64,.int .i64,.int .i64,.bool]
@[reducible] def hs22:List Sh:=[.int .i64,.int .i64,.int .i64,.int .i64,.int .i64,.int .i64,.int .i64,.int .i64,.int .i64,.int .i64,.int .i64,.int .i64]
@[reducible] def Qt23:Type:=Int×Int×Int×LL×Int×Int×Int×Int×Int×Int×Bool×Bool×LL×Int×Int×LL×LL×LL×LL×LL×LL×LL
@[reducible] def hs24:List Sh:=[.int .i64,.int .i64,.int .i64,.slice 3,.int .i64,.int .i64,.int .i64,.int .i64,.int .i64,.int .i64,.bool]
@[reducible] def hs25:List Sh:=[.slice 1,.int .i64,.int .i64,.slice 3,.slice 1,.slice 13,.own Xc 149,.own Xc 4,.own Xc 4,.slice 2]
@[reducible] def hs26:List Sh:=[.int .i64,.int .i64,.int .i64,.int .i64,.int .i64,.int .i64,.int .i64,.int .i64,.int .i64,.int .i64]
@[reducible] def Qt27:Type:=Int×Int×Int×Int×Int×Int×Int×Bool×Int×LL×Int×Int×LL×LL×LL×LL×LL×LL×LL
@[reducible] def hs28:List Sh:=[.int .i64,.int .i64,.int .i64,.int .i64,.int .i64,.int .i64,.int .i64,.bool,.int .i64]
@[reducible] def Qt29:Type:=Int×Int×Int×LL×Int×Int×Int×Int×Int×Int×Bool×Int×Int×Int×Int
@[reducible] def Qt30:Type:=Int×Int×Int×Int×Int×LL×Int×Int×Int×Int×Int×Int×Bool
@[reducible] def hs31:List Sh:=[.int .i64,.int .i64,.int .i64,.int .i64,.int .i64,.int .i64,.bool]
@[reducible] def Qt32:Type:=Int×Int×Int×LL×Int×Int×Int×Int×Int×Int×Bool×Int
@[reducible] def Qt33:Type:=Int×Int×Int×Int×Int×Int×Int×Int×Int×Int×Int×Int
@[reducible] def hs34:List Sh:=[.int .i64,.int .i64,.int .i64,.int .i64,.int .i64,.int .i64]
@[reducible] def hs35:List Sh:=[.int .i64,.int .i64,.int .i64,.int .i64,.slice 3,.slice 1]
@[reducible] def Qt36:Type:=Int×Int×Int×LL×Int×Int×Int×Int×Int×Int×Bool
@[reducible] def hs37:List Sh:=[.slice 15,.slice 28,.slice 4,.slice 2,.slice 13,.slice 3]
@[reducible] def Qt38:Type:=Bool×LL×Int×Int×LL×LL×LL×LL×LL×LL×LL
@[reducible] def Qt39:Type:=Int×LL×Int×Int×LL×LL×LL×LL×LL×LL×LL
@[reducible] def Qt40:Type:=LL×LL×Int×Int×LL×LL×LL×LL×LL×LL×LL
@[reducible] def Qt41:Type:=LL×Int×Int×LL×LL×LL×LL×LL×LL×LL
@[reducible] def Qt42:Type:=Int×Int×Int×Int×Int×Int×Bool
@[reducible] def Qt43:Type:=Int×Int×Int×Int×LL×LL×Int
@[reducible] def Qt44:Type:=Int×Int×Int×Int×Int×Int
structure Fn where
 nt:Nat
 res:List Nat
 keep:List (Nat×List (Nat×HP))
 pins:List Nat
 ng:Nat
 ex:List Nat
 fz:List (Nat×List (Nat×Nat))
 fn:Func
 A:List AP
 R:List RSh
 P:List (FuncId×Fun)
noncomputable def Fn.E (F:Fn):Env:=ZBF F.nt F.res F.keep F.pins F.ng F.ex F.fz
noncomputable def Fn.T (F:Fn):STree:=ZwR Tryz.prog F.E F.fn (Zad F.A 0) (Zta F.A)
noncomputable def Fn.S (F:Fn):Fun:=⟨F.A,F.R,fun vs=>F.T.run Tryz.prog F.P F.A F.R (fun _ _=>none) (Zwd vs)⟩
@[reducible] def r0 {γ:Type} : Nat→List V→Option γ:=fun _ _=>none
noncomputable def Fn.lp (F:Fn) (p:List Nat) (lv:Nat) (ρ:Nat→List V→Option (ShsT (ZaW F.R F.A))) (k:Nat) (vs:List V):Option (ShsT (ZaW F.R F.A)):=Zdk (fun rec vs=>STree.run Tryz.prog F.P F.A F.R (F.T.go p) (ZlY ρ lv rec) (bind ZfZ 0 vs)) k vs
def Fn.chk (F : Fn) : Bool := !(F.fn.name == "runtime.NumGoroutine") && apsFine F.A
def Zse:Vz Tryz.prog ksG:=Zm7
def ZoT (F:Fn):EnvSound Tryz.prog F.E:=⟨Zpt (a:=Zqo) (by kernel_rfl),Zse⟩
def mixed:Tryz.prog.follows .mixedOrders=Xc:=by kernel_rfl
def Fn.ok (F:Fn) {f:FuncId} (hf:Tryz.prog.funcs[f]? = some F.fn) (hP:ZmY Tryz.prog F.P:=by exact trivial) (hc:F.chk=Xc:=by kernel_rfl):F.S.Ok Tryz.prog f:=by
 simp only [Fn.chk,Bool.and_eq_true,Bool.not_eq_true'] at hc;exact fun_ok (Φ:=F.P) (S:=F.S) (E:=F.E) mixed (ZoT F) hf hc.1 hc.2 rfl (T:=F.T) rfl hP fun _=>rfl
end Go.Proofs.YtnkmbgbpkgmbnaaGreat
