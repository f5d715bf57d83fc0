import Derived.Test.YtpjnmgjphfnmmaaM4
import Derived.Test.YtpjnmgjphfnmmaaProg
import Derived.KernelRfl
set_option linter.unusedVariables false
set_option linter.unusedSimpArgs false
set_option linter.defProp false
namespace Go.Proofs.Ytpjnmgjphfnmmaa
open Go Go.AM
def ZvU:List (Nat×Nat):=[(53,1),(14,1),(52,1),(30,1),(13,1),(45,1),(19,4),(21,1),(46,4),(23,1),(71,1),(59,1),(57,1),(37,1),(72,2),(58,2),(39,1),(41,1)]
def ZwL:List (Nat×Nat):=[]
def Zr9:List Nat:=[35]
def rbG:List (Nat×List Sh):=[]
def ZxG:List (Nat×Nat):=[]
def ksG:List (Nat×Nat×Nat):=[]
def Zw1:List Nat:=[]
def ZxU:List Nat:=[8,10,11,13,14,19,21,23,24,27,29,30,31,35,42,45,52,32,34,36,37,39,40,41,55,57,58,59,60,61,71,43,44,46,47,50,51,53,64,65,3,4,5,6,7,15,16,17]
def ZxW:List Nat:=[24,43,50]
def Zxd (l:List (Nat×Nat×Nat)) (i:Nat):Option (FuncId×Nat):=match l with | []=>none | (j,g,m)::r=>if i=j then some (g,m) else Zxd r i
def ZwW (l:List (Nat×List Sh)) (i:Nat):Option (List Sh):=match l with | []=>none | (j,x)::r=>if i=j then some x else ZwW r i
def atG (l:List (Nat×Nat)) (i:Nat):Nat:=match l with | []=>0 | (j,n)::r=>if i=j then n else atG r i
def Zxc (l:List (Nat×List (Nat×Nat))) (i:Nat):List (Nat×Nat):=match l with | []=>[] | (j,n)::r=>if i=j then n else Zxc r i
def ZrN (k:List (Nat×List (Nat×HP))) (i:Nat):List (Nat×HP):=match k with | []=>[] | (j,l)::r=>if i=j then l else ZrN r i
def ZxT (nt:Nat) (res:List Nat) (keep:List (Nat×List (Nat×HP))) (pins:List Nat) (ng:Nat) (ex:List Nat) (fz:List (Nat×List (Nat×Nat))) (st:Option Nat) (scel:List Nat) (fv:List (Nat×Nat×Nat)):Env:={ nt,cons:=fun f i=>ZwL.contains (f,i),fresh:=atG ZvU,plain:=Zr9,res,keep:=ZrN keep,pins,ng,ex,fz:=Zxc fz,rb:=ZwW rbG,rfs:=fun f=>(ZxG.filter fun p=>p.1 == f).map (·.2),ks:=ksG,srt:=Zw1,st,scel,wst:=ZxU.contains,fnv:=Zxd fv,wraw:=ZxW.contains }
structure Fn where
 nt:Nat
 res:List Nat
 keep:List (Nat×List (Nat×HP))
 pins:List Nat
 ng:Nat
 ex:List Nat
 fz:List (Nat×List (Nat×Nat))
 st:Option Nat
 sc:List Nat
 fv:List (Nat×Nat×Nat)
 fn:Func
 A:List AP
 R:List RSh
 P:List (FuncId×Fun)
noncomputable def Fn.E (F:Fn):Env:=ZxT F.nt F.res F.keep F.pins F.ng F.ex F.fz F.st F.sc F.fv
noncomputable def Fn.T (F:Fn):STree:=Zwh Try.prog F.E F.fn (Za4 F.A 0) (Zue F.A)
noncomputable def Fn.S (F:Fn):Fun:=⟨F.A,F.R,fun vs=>F.T.run Try.prog F.P F.A F.R (fun _ _=>none) (Zv2 vs)⟩
@[reducible] def r0 {γ:Type} : Nat→List V→Option γ:=fun _ _=>none
noncomputable def Fn.lp (F:Fn) (p:List Nat) (lv:Nat) (ρ:Nat→List V→Option (ShsT (ZcJ F.R F.A))) (k:Nat) (vs:List V):Option (ShsT (ZcJ F.R F.A)):=ZeE (fun rec vs=>STree.run Try.prog F.P F.A F.R (F.T.go p) (ZtK ρ lv rec) (bind Zhx 0 vs)) k vs
def Fn.chk (F : Fn) : Bool := !(F.fn.name == "runtime.NumGoroutine") && apsFine F.A
theorem ZtL:Za8 Try.prog ksG:=fun p hp=>by cases hp
theorem ZsB:Zby Try.prog Zw1:=fun f hf=>by cases hf
theorem Zp4 (F:Fn):EnvSound Try.prog F.E:=⟨Zqz (plain:=Zr9) (by kernel_rfl),ZtL,ZsB⟩
theorem mixed:Try.prog.follows .mixedOrders=true:=by kernel_rfl
theorem Fn.ok (F:Fn) {f:FuncId} (hf:Try.prog.funcs[f]? = some F.fn) (hc:F.chk=true) (hP:ZnW Try.prog F.P):F.S.Ok Try.prog f:=by
 simp only [Fn.chk,Bool.and_eq_true,Bool.not_eq_true'] at hc;exact fun_ok (Φ:=F.P) (S:=F.S) (E:=F.E) mixed (Zp4 F) hf hc.1 hc.2 rfl (T:=F.T) rfl hP fun _=>rfl
end Go.Proofs.Ytpjnmgjphfnmmaa
