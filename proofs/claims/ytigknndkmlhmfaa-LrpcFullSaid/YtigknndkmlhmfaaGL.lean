/- What all trees of this seat are told. -/
import Derived.Test.YtigknndkmlhmfaaM6
import Derived.Test.YtigknndkmlhmfaaProg
import Derived.KernelRfl
namespace Go.Proofs.Ytigknndkmlhmfaa
open Go Go.AM
def ZmR:List (Nat×Nat):=[(65,2),(75,2),(43,1),(66,2),(40,3),(70,2),(44,2),(48,2),(41,1)]
def ZnT:List (Nat×Nat):=[(70,0),(48,0),(41,0),(41,2)]
def ZkK:List Nat:=[]
def rbG:List (Nat×List Sh):=[]
def Zod:List (Nat×Nat):=[]
def ksG:List (Nat×Nat×Nat):=[]
def Zn4 (l:List (Nat×List Sh)) (i:Nat):Option (List Sh):=match l with | []=>none | (j,x)::r=>if i=j then some x else Zn4 r i
def atG (l:List (Nat×Nat)) (i:Nat):Nat:=match l with | []=>0 | (j,n)::r=>if i=j then n else atG r i
def Zn1 (l:List (Nat×List (Nat×Nat))) (i:Nat):List (Nat×Nat):=match l with | []=>[] | (j,n)::r=>if i=j then n else Zn1 r i
def ZkI (k:List (Nat×List (Nat×HP))) (i:Nat):List (Nat×HP):=match k with | []=>[] | (j,l)::r=>if i=j then l else ZkI r i
def Zoc (nt:Nat) (res:List Nat) (keep:List (Nat×List (Nat×HP))) (pins:List Nat) (ng:Nat) (ex:List Nat) (fz:List (Nat×List (Nat×Nat))):Env:={ nt,cons:=fun f i=>ZnT.contains (f,i),fresh:=atG ZmR,plain:=ZkK,res,keep:=ZkI keep,pins,ng,ex,fz:=Zn1 fz,rb:=Zn4 rbG,rfs:=fun f=>(Zod.filter fun p=>p.1 == f).map (·.2),ks:=ksG }
structure Fn where
 nt:Nat
 res:List Nat
 keep:List (Nat×List (Nat×HP))
 pins:List Nat
 ng:Nat
 ex:List Nat
 fz:List (Nat×List (Nat×Nat))
 fn:Func
 A:List AP
 R:List RSh
 P:List (FuncId×Fun)
noncomputable def Fn.E (F:Fn):Env:=Zoc F.nt F.res F.keep F.pins F.ng F.ex F.fz
noncomputable def Fn.T (F:Fn):STree:=Znu Try.prog F.E F.fn (VM F.A 0) (Zmg F.A)
noncomputable def Fn.S (F:Fn):Fun:=⟨F.A,F.R,fun vs=>F.T.run Try.prog F.P F.A F.R (fun _ _=>none) (Zmm vs)⟩
@[reducible] def r0 {γ:Type} : Nat→List V→Option γ:=fun _ _=>none
noncomputable def Fn.lp (F:Fn) (p:List Nat) (lv:Nat) (ρ:Nat→List V→Option (ShsT (ZbI F.R F.A))) (k:Nat) (vs:List V):Option (ShsT (ZbI F.R F.A)):=ZbU (fun rec vs=>STree.run Try.prog F.P F.A F.R (F.T.go p) (Zmf ρ lv rec) (bind Zep 0 vs)) k vs
def Fn.chk (F : Fn) : Bool := !(F.fn.name == "runtime.NumGoroutine") && apsFine F.A
theorem ZlU:VK Try.prog ksG:=fun p hp=>by cases hp
theorem Zkf (F:Fn):EnvSound Try.prog F.E:=⟨ZjP (plain:=ZkK) (by kernel_rfl),ZlU⟩
theorem mixed:Try.prog.follows .mixedOrders=true:=by kernel_rfl
theorem Fn.ok (F:Fn) {f:FuncId} (hf:Try.prog.funcs[f]? = some F.fn) (hc:F.chk=true) (hP:ZiL Try.prog F.P):F.S.Ok Try.prog f:=by
 simp only [Fn.chk,Bool.and_eq_true,Bool.not_eq_true'] at hc
 exact fun_ok (Φ:=F.P) (S:=F.S) (E:=F.E) mixed (Zkf F) hf hc.1 hc.2 rfl (T:=F.T) rfl hP fun _=>rfl
end Go.Proofs.Ytigknndkmlhmfaa
