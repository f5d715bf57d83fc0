/- What all trees of this seat are told. -/
import Derived.Test.YtigknndkmlhmfaaM6
import Derived.Test.YtigknndkmlhmfaaProg
import Derived.KernelRfl
namespace Go.Proofs.Ytigknndkmlhmfaa
open Go Go.AM
def Znm:List (Nat×Nat):=[(65,2),(75,2),(43,1),(66,2),(40,3),(70,2),(44,2),(48,2),(41,1)]
def ZnR:List (Nat×Nat):=[(70,0),(48,0),(41,0),(41,2)]
def Zk7:List Nat:=[]
def rbG:List (Nat×List Sh):=[]
def ZoR:List (Nat×Nat):=[]
def ksG:List (Nat×Nat×Nat):=[]
def Zok (l:List (Nat×List Sh)) (i:Nat):Option (List Sh):=match l with | []=>none | (j,x)::r=>if i=j then some x else Zok r i
def atG (l:List (Nat×Nat)) (i:Nat):Nat:=match l with | []=>0 | (j,n)::r=>if i=j then n else atG r i
def Zoq (l:List (Nat×List (Nat×Nat))) (i:Nat):List (Nat×Nat):=match l with | []=>[] | (j,n)::r=>if i=j then n else Zoq r i
def ZkZ (k:List (Nat×List (Nat×HP))) (i:Nat):List (Nat×HP):=match k with | []=>[] | (j,l)::r=>if i=j then l else ZkZ r i
def ZoL (nt:Nat) (res:List Nat) (keep:List (Nat×List (Nat×HP))) (pins:List Nat) (ng:Nat) (ex:List Nat) (fz:List (Nat×List (Nat×Nat))):Env:={ nt,cons:=fun f i=>ZnR.contains (f,i),fresh:=atG Znm,plain:=Zk7,res,keep:=ZkZ keep,pins,ng,ex,fz:=Zoq fz,rb:=Zok rbG,rfs:=fun f=>(ZoR.filter fun p=>p.1 == f).map (·.2),ks:=ksG }
structure Fn where
 nt:Nat
 res:List Nat
 keep:List (Nat×List (Nat×HP))
 pins:List Nat
 ng:Nat
 ex:List Nat
 fz:List (Nat×List (Nat×Nat))
 fn:Func
 A:List AP
 R:List RSh
 P:List (FuncId×Fun)
noncomputable def Fn.E (F:Fn):Env:=ZoL F.nt F.res F.keep F.pins F.ng F.ex F.fz
noncomputable def Fn.T (F:Fn):STree:=ZnJ Try.prog F.E F.fn (Wa F.A 0) (Zmy F.A)
noncomputable def Fn.S (F:Fn):Fun:=⟨F.A,F.R,fun vs=>F.T.run Try.prog F.P F.A F.R (fun _ _=>none) (Znh vs)⟩
@[reducible] def r0 {γ:Type} : Nat→List V→Option γ:=fun _ _=>none
noncomputable def Fn.lp (F:Fn) (p:List Nat) (lv:Nat) (ρ:Nat→List V→Option (ShsT (ZbQ F.R F.A))) (k:Nat) (vs:List V):Option (ShsT (ZbQ F.R F.A)):=ZbZ (fun rec vs=>STree.run Try.prog F.P F.A F.R (F.T.go p) (ZlV ρ lv rec) (bind Zex 0 vs)) k vs
def Fn.chk (F : Fn) : Bool := !(F.fn.name == "runtime.NumGoroutine") && apsFine F.A
theorem ZlT:Wj Try.prog ksG:=fun p hp=>by cases hp
theorem ZkN (F:Fn):EnvSound Try.prog F.E:=⟨Zkg (plain:=Zk7) (by kernel_rfl),ZlT⟩
theorem mixed:Try.prog.follows .mixedOrders=true:=by kernel_rfl
theorem Fn.ok (F:Fn) {f:FuncId} (hf:Try.prog.funcs[f]? = some F.fn) (hc:F.chk=true) (hP:Ziy Try.prog F.P):F.S.Ok Try.prog f:=by
 simp only [Fn.chk,Bool.and_eq_true,Bool.not_eq_true'] at hc
 exact fun_ok (Φ:=F.P) (S:=F.S) (E:=F.E) mixed (ZkN F) hf hc.1 hc.2 rfl (T:=F.T) rfl hP fun _=>rfl
end Go.Proofs.Ytigknndkmlhmfaa
