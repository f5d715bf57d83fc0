import Derived.Test.YtpjnmgjphfnmmaaM4
import Derived.Test.YtpjnmgjphfnmmaaProg
import Derived.KernelRfl
set_option linter.unusedVariables false
set_option linter.unusedSimpArgs false
set_option linter.defProp false
namespace Go.Proofs.Ytpjnmgjphfnmmaa
open Go Go.AM
def ZtM:List (Nat×Nat):=[(53,1),(14,1),(52,1),(30,1),(13,1),(45,1),(19,4),(21,1),(46,4),(23,1),(71,1),(59,1),(57,1),(37,1),(72,2),(58,2),(39,1),(41,1)]
def Zvy:List (Nat×Nat):=[]
def Zrz:List Nat:=[35]
def rbG:List (Nat×List Sh):=[]
def Zwb:List (Nat×Nat):=[]
def ksG:List (Nat×Nat×Nat):=[]
def Zv2:List Nat:=[]
def Zwt:List Nat:=[8,10,11,13,14,19,21,23,24,27,29,30,31,35,42,45,52,32,34,36,37,39,40,41,55,57,58,59,60,61,71,43,44,46,47,50,51,53,64,65,3,4,5,6,7,15,16,17]
def ZwE:List Nat:=[43,50]
def Zv0 (l:List (Nat×Nat×Nat)) (i:Nat):Option (FuncId×Nat):=match l with | []=>none | (j,g,m)::r=>if i=j then some (g,m) else Zv0 r i
def Zv1 (l:List (Nat×List Sh)) (i:Nat):Option (List Sh):=match l with | []=>none | (j,x)::r=>if i=j then some x else Zv1 r i
def atG (l:List (Nat×Nat)) (i:Nat):Nat:=match l with | []=>0 | (j,n)::r=>if i=j then n else atG r i
def ZvW (l:List (Nat×List (Nat×Nat))) (i:Nat):List (Nat×Nat):=match l with | []=>[] | (j,n)::r=>if i=j then n else ZvW r i
def ZqJ (k:List (Nat×List (Nat×HP))) (i:Nat):List (Nat×HP):=match k with | []=>[] | (j,l)::r=>if i=j then l else ZqJ r i
def ZwI (nt:Nat) (res:List Nat) (keep:List (Nat×List (Nat×HP))) (pins:List Nat) (ng:Nat) (ex:List Nat) (fz:List (Nat×List (Nat×Nat))) (st:Option Nat) (scel:List Nat) (fv:List (Nat×Nat×Nat)):Env:={ nt,cons:=fun f i=>Zvy.contains (f,i),fresh:=atG ZtM,plain:=Zrz,res,keep:=ZqJ keep,pins,ng,ex,fz:=ZvW fz,rb:=Zv1 rbG,rfs:=fun f=>(Zwb.filter fun p=>p.1 == f).map (·.2),ks:=ksG,srt:=Zv2,st,scel,wst:=Zwt.contains,fnv:=Zv0 fv,wraw:=ZwE.contains }
structure Fn where
 nt:Nat
 res:List Nat
 keep:List (Nat×List (Nat×HP))
 pins:List Nat
 ng:Nat
 ex:List Nat
 fz:List (Nat×List (Nat×Nat))
 st:Option Nat
 sc:List Nat
 fv:List (Nat×Nat×Nat)
 fn:Func
 A:List AP
 R:List RSh
 P:List (FuncId×Fun)
noncomputable def Fn.E (F:Fn):Env:=ZwI F.nt F.res F.keep F.pins F.ng F.ex F.fz F.st F.sc F.fv
noncomputable def Fn.T (F:Fn):STree:=Zu6 Try.prog F.E F.fn (Zbl F.A 0) (Zs6 F.A)
noncomputable def Fn.S (F:Fn):Fun:=⟨F.A,F.R,fun vs=>F.T.run Try.prog F.P F.A F.R (fun _ _=>none) (Zuz vs)⟩
@[reducible] def r0 {γ:Type} : Nat→List V→Option γ:=fun _ _=>none
noncomputable def Fn.lp (F:Fn) (p:List Nat) (lv:Nat) (ρ:Nat→List V→Option (ShsT (ZcA F.R F.A))) (k:Nat) (vs:List V):Option (ShsT (ZcA F.R F.A)):=ZeA (fun rec vs=>STree.run Try.prog F.P F.A F.R (F.T.go p) (ZqZ ρ lv rec) (bind ZhL 0 vs)) k vs
def Fn.chk (F : Fn) : Bool := !(F.fn.name == "runtime.NumGoroutine") && apsFine F.A
theorem ZsJ:Zby Try.prog ksG:=fun p hp=>by cases hp
theorem Zsl:Zbf Try.prog Zv2:=fun f hf=>by cases hf
theorem Zpe (F:Fn):EnvSound Try.prog F.E:=⟨Zp1 (plain:=Zrz) (by kernel_rfl),ZsJ,Zsl⟩
theorem mixed:Try.prog.follows .mixedOrders=true:=by kernel_rfl
theorem Fn.ok (F:Fn) {f:FuncId} (hf:Try.prog.funcs[f]? = some F.fn) (hc:F.chk=true) (hP:ZmO Try.prog F.P):F.S.Ok Try.prog f:=by
 simp only [Fn.chk,Bool.and_eq_true,Bool.not_eq_true'] at hc
 exact fun_ok (Φ:=F.P) (S:=F.S) (E:=F.E) mixed (Zpe F) hf hc.1 hc.2 rfl (T:=F.T) rfl hP fun _=>rfl
end Go.Proofs.Ytpjnmgjphfnmmaa
