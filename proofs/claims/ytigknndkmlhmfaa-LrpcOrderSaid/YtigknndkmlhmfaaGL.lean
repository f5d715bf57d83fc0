/- What all trees of this seat are told. -/
import Derived.Test.YtigknndkmlhmfaaM6
import Derived.Test.YtigknndkmlhmfaaProg
import Derived.KernelRfl
namespace Go.Proofs.Ytigknndkmlhmfaa
open Go Go.AM
def ZmI:List (Nat×Nat):=[(65,2),(75,2),(43,1),(66,2),(40,3),(70,2),(44,2),(48,2),(41,1)]
def ZnQ:List (Nat×Nat):=[(70,0),(48,0),(41,0),(41,2)]
def Zk6:List Nat:=[]
def rbG:List (Nat×List Sh):=[]
def ZoE:List (Nat×Nat):=[]
def ksG:List (Nat×Nat×Nat):=[]
def Zog (l:List (Nat×List Sh)) (i:Nat):Option (List Sh):=match l with | []=>none | (j,x)::r=>if i=j then some x else Zog r i
def atG (l:List (Nat×Nat)) (i:Nat):Nat:=match l with | []=>0 | (j,n)::r=>if i=j then n else atG r i
def Zok (l:List (Nat×List (Nat×Nat))) (i:Nat):List (Nat×Nat):=match l with | []=>[] | (j,n)::r=>if i=j then n else Zok r i
def ZkY (k:List (Nat×List (Nat×HP))) (i:Nat):List (Nat×HP):=match k with | []=>[] | (j,l)::r=>if i=j then l else ZkY r i
def ZoI (nt:Nat) (res:List Nat) (keep:List (Nat×List (Nat×HP))) (pins:List Nat) (ng:Nat) (ex:List Nat) (fz:List (Nat×List (Nat×Nat))):Env:={ nt,cons:=fun f i=>ZnQ.contains (f,i),fresh:=atG ZmI,plain:=Zk6,res,keep:=ZkY keep,pins,ng,ex,fz:=Zok fz,rb:=Zog rbG,rfs:=fun f=>(ZoE.filter fun p=>p.1 == f).map (·.2),ks:=ksG }
structure Fn where
 nt:Nat
 res:List Nat
 keep:List (Nat×List (Nat×HP))
 pins:List Nat
 ng:Nat
 ex:List Nat
 fz:List (Nat×List (Nat×Nat))
 fn:Func
 A:List AP
 R:List RSh
 P:List (FuncId×Fun)
noncomputable def Fn.E (F:Fn):Env:=ZoI F.nt F.res F.keep F.pins F.ng F.ex F.fz
noncomputable def Fn.T (F:Fn):STree:=Znz Try.prog F.E F.fn (VZ F.A 0) (Zmp F.A)
noncomputable def Fn.S (F:Fn):Fun:=⟨F.A,F.R,fun vs=>F.T.run Try.prog F.P F.A F.R (fun _ _=>none) (Zno vs)⟩
@[reducible] def r0 {γ:Type} : Nat→List V→Option γ:=fun _ _=>none
noncomputable def Fn.lp (F:Fn) (p:List Nat) (lv:Nat) (ρ:Nat→List V→Option (ShsT (Zb4 F.R F.A))) (k:Nat) (vs:List V):Option (ShsT (Zb4 F.R F.A)):=ZbR (fun rec vs=>STree.run Try.prog F.P F.A F.R (F.T.go p) (Zmo ρ lv rec) (bind ZdO 0 vs)) k vs
def Fn.chk (F : Fn) : Bool := !(F.fn.name == "runtime.NumGoroutine") && apsFine F.A
theorem ZlL:VN Try.prog ksG:=fun p hp=>by cases hp
theorem ZjK (F:Fn):EnvSound Try.prog F.E:=⟨ZkP (plain:=Zk6) (by kernel_rfl),ZlL⟩
theorem mixed:Try.prog.follows .mixedOrders=true:=by kernel_rfl
theorem Fn.ok (F:Fn) {f:FuncId} (hf:Try.prog.funcs[f]? = some F.fn) (hc:F.chk=true) (hP:ZhS Try.prog F.P):F.S.Ok Try.prog f:=by
 simp only [Fn.chk,Bool.and_eq_true,Bool.not_eq_true'] at hc
 exact fun_ok (Φ:=F.P) (S:=F.S) (E:=F.E) mixed (ZjK F) hf hc.1 hc.2 rfl (T:=F.T) rfl hP fun _=>rfl
end Go.Proofs.Ytigknndkmlhmfaa
