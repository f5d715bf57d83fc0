import Derived.Test.YtigknndkmlhmfaaM5
import Derived.Test.YtigknndkmlhmfaaProg
import Derived.KernelRfl
set_option linter.unusedVariables false
set_option linter.unusedSimpArgs false
set_option linter.defProp false
namespace Go.Proofs.Ytigknndkmlhmfaa
open Go Go.AM
def ZsF:List (Nat×Nat):=[(65,2),(75,2),(43,1),(66,2),(40,3),(70,2),(44,2),(48,2),(41,1),(54,1),(55,1),(24,1),(59,2),(32,1),(49,2),(19,3),(56,1),(25,1),(60,1),(33,1),(34,1)]
def Ztv:List (Nat×Nat):=[(70,0),(48,0),(41,0),(41,2),(55,0),(59,0)]
def ZpL:List Nat:=[]
def rbG:List (Nat×List Sh):=[]
def ZuB:List (Nat×Nat):=[]
def ksG:List (Nat×Nat×Nat):=[]
def ZtT:List Nat:=[45]
def Zul (l:List (Nat×List Sh)) (i:Nat):Option (List Sh):=match l with | []=>none | (j,x)::r=>if i=j then some x else Zul r i
def atG (l:List (Nat×Nat)) (i:Nat):Nat:=match l with | []=>0 | (j,n)::r=>if i=j then n else atG r i
def Zun (l:List (Nat×List (Nat×Nat))) (i:Nat):List (Nat×Nat):=match l with | []=>[] | (j,n)::r=>if i=j then n else Zun r i
def ZpJ (k:List (Nat×List (Nat×HP))) (i:Nat):List (Nat×HP):=match k with | []=>[] | (j,l)::r=>if i=j then l else ZpJ r i
def Zvh (nt:Nat) (res:List Nat) (keep:List (Nat×List (Nat×HP))) (pins:List Nat) (ng:Nat) (ex:List Nat) (fz:List (Nat×List (Nat×Nat))):Env:={ nt,cons:=fun f i=>Ztv.contains (f,i),fresh:=atG ZsF,plain:=ZpL,res,keep:=ZpJ keep,pins,ng,ex,fz:=Zun fz,rb:=Zul rbG,rfs:=fun f=>(ZuB.filter fun p=>p.1 == f).map (·.2),ks:=ksG,srt:=ZtT }
structure Fn where
 nt:Nat
 res:List Nat
 keep:List (Nat×List (Nat×HP))
 pins:List Nat
 ng:Nat
 ex:List Nat
 fz:List (Nat×List (Nat×Nat))
 fn:Func
 A:List AP
 R:List RSh
 P:List (FuncId×Fun)
noncomputable def Fn.E (F:Fn):Env:=Zvh F.nt F.res F.keep F.pins F.ng F.ex F.fz
noncomputable def Fn.T (F:Fn):STree:=Ztf Try.prog F.E F.fn (W3 F.A 0) (ZrP F.A)
noncomputable def Fn.S (F:Fn):Fun:=⟨F.A,F.R,fun vs=>F.T.run Try.prog F.P F.A F.R (fun _ _=>none) (Zsv vs)⟩
@[reducible] def r0 {γ:Type} : Nat→List V→Option γ:=fun _ _=>none
noncomputable def Fn.lp (F:Fn) (p:List Nat) (lv:Nat) (ρ:Nat→List V→Option (ShsT (ZdM F.R F.A))) (k:Nat) (vs:List V):Option (ShsT (ZdM F.R F.A)):=ZdF (fun rec vs=>STree.run Try.prog F.P F.A F.R (F.T.go p) (Zjd ρ lv rec) (bind Zhe 0 vs)) k vs
def Fn.chk (F : Fn) : Bool := !(F.fn.name == "runtime.NumGoroutine") && apsFine F.A
theorem Zrf:Zas Try.prog ksG:=fun p hp=>by cases hp
theorem Zrx:W4 Try.prog ZtT:=Zl6
theorem Zox (F:Fn):EnvSound Try.prog F.E:=⟨ZnO (plain:=ZpL) (by kernel_rfl),Zrf,Zrx⟩
theorem mixed:Try.prog.follows .mixedOrders=true:=by kernel_rfl
theorem Fn.ok (F:Fn) {f:FuncId} (hf:Try.prog.funcs[f]? = some F.fn) (hc:F.chk=true) (hP:ZkY Try.prog F.P):F.S.Ok Try.prog f:=by
 simp only [Fn.chk,Bool.and_eq_true,Bool.not_eq_true'] at hc
 exact fun_ok (Φ:=F.P) (S:=F.S) (E:=F.E) mixed (Zox F) hf hc.1 hc.2 rfl (T:=F.T) rfl hP fun _=>rfl
end Go.Proofs.Ytigknndkmlhmfaa
