/- What all trees of this seat are told. -/
import Derived.Test.YtmjkdbpffdampaaM4
import Derived.Test.YtmjkdbpffdampaaProg
import Derived.KernelRfl
namespace Go.Proofs.Ytmjkdbpffdampaa
open Go Go.AM
def ZlU:List (Nat×Nat):=[(33,1),(62,1),(20,2),(84,1),(72,1),(21,1),(59,1),(61,1),(12,2)]
def Zoj:List (Nat×Nat):=[]
def Zj6:List Nat:=[43,48,50]
def atG (l:List (Nat×Nat)) (i:Nat):Nat:=match l with | []=>0 | (j,n)::r=>if i=j then n else atG r i
def Zox (l:List (Nat×List (Nat×Nat))) (i:Nat):List (Nat×Nat):=match l with | []=>[] | (j,n)::r=>if i=j then n else Zox r i
def ZjI (k:List (Nat×List (Nat×HP))) (i:Nat):List (Nat×HP):=match k with | []=>[] | (j,l)::r=>if i=j then l else ZjI r i
def ZpA (nt:Nat) (res:List Nat) (keep:List (Nat×List (Nat×HP))) (pins:List Nat) (ng:Nat) (ex:List Nat) (fz:List (Nat×List (Nat×Nat))):Env:={ nt,cons:=fun f i=>Zoj.contains (f,i),fresh:=atG ZlU,plain:=Zj6,res,keep:=ZjI keep,pins,ng,ex,fz:=Zox fz }
@[reducible] def hs0:List Sh:=[.int .i64,.int .i64,.int .i64,.int .i64,.int .i64,.int .i64,.int .i64,.int .i64,.int .i64,.int .i64,.int .i64,.int .i64,.int .i64,.int .i64,.int .i64,.int .i64,.int .i64,.int .i64,.int .i64,.int .i64,.slice 3,.int .i64,.int .i64,.int .i64,.int .i64,.int .i64,.int .i64,.bool]
@[reducible] def Qt1:Type:=Int×Int×Int×Int×Int×Int×Int×Int×Int×Int×Int×Int×Int×Int×Int×Int×Int×Int×Int×Int×LL×Int×Int×Int×Int×Int×Int×Bool×LL×Int
@[reducible] def Qt2:Type:=Int×Int×Int×Int×Int×Int×Int×Int×Int×Int×Int×Int×Int×Int×Int×Int×Int×Int×Int×Int×LL×Int×Int×Int×Int×Int×Int×Bool
@[reducible] def hs3:List Sh:=[.int .i64,.int .i64,.int .i64,.slice 3,.int .i64,.int .i64,.int .i64,.int .i64,.int .i64,.int .i64,.bool,.int .i64,.int .i64,.int .i64,.int .i64]
@[reducible] def hs4:List Sh:=[.int .i64,.int .i64,.int .i64,.int .i64,.int .i64,.slice 3,.int .i64,.int .i64,.int .i64,.int .i64,.int .i64,.int .i64,.bool]
@[reducible] def hs5:List Sh:=[.int .i64,.int .i64,.int .i64,.int .i64,.int .i64,.int .i64,.int .i64,.int .i64,.int .i64,.int .i64,.int .i64,.int .i64]
@[reducible] def hs6:List Sh:=[.int .i64,.int .i64,.int .i64,.slice 3,.int .i64,.int .i64,.int .i64,.int .i64,.int .i64,.int .i64,.bool]
@[reducible] def hs7:List Sh:=[.bool,.int .i64,.int .i64,.int .i64,.int .i64,.int .i64,.int .i64,.int .i64,.int .i64,.bool]
@[reducible] def hs8:List Sh:=[.int .i64,.int .i64,.int .i64,.int .i64,.int .i64,.int .i64,.int .i64,.int .i64,.int .i64]
@[reducible] def Qt9:Type:=Int×Int×Int×LL×Int×Int×Int×Int×Int×Int×Bool×Int×Int×Int×Int
@[reducible] def Qt10:Type:=Int×Int×Int×Int×Int×LL×Int×Int×Int×Int×Int×Int×Bool
@[reducible] def hs11:List Sh:=[.int .i64,.int .i64,.int .i64,.int .i64,.int .i64,.int .i64,.bool]
@[reducible] def Qt12:Type:=Int×Int×Int×LL×Int×Int×Int×Int×Int×Int×Bool×Int
@[reducible] def Qt13:Type:=Int×Int×Int×Int×Int×Int×Int×Int×Int×Int×Int×Int
@[reducible] def hs14:List Sh:=[.own true 62,.slice 28,.slice 4,.slice 2,.slice 13,.slice 3]
@[reducible] def hs15:List Sh:=[.slice 15,.slice 28,.slice 4,.slice 2,.slice 13,.slice 3]
@[reducible] def Qt16:Type:=Int×Int×Int×LL×Int×Int×Int×Int×Int×Int×Bool
@[reducible] def Qt17:Type:=Int×Int×Int×Int×Int×Int×Bool
@[reducible] def Qt18:Type:=LL×LL×LL×LL×LL×LL
structure Fn where
 nt:Nat
 res:List Nat
 keep:List (Nat×List (Nat×HP))
 pins:List Nat
 ng:Nat
 ex:List Nat
 fz:List (Nat×List (Nat×Nat))
 fn:Func
 A:List AP
 R:List RSh
 P:List (FuncId×Fun)
noncomputable def Fn.E (F:Fn):Env:=ZpA F.nt F.res F.keep F.pins F.ng F.ex F.fz
noncomputable def Fn.T (F:Fn):STree:=ZnD Try.prog F.E F.fn (VA F.A 0) (Zlq F.A)
noncomputable def Fn.S (F:Fn):Fun:=⟨F.A,F.R,fun vs=>F.T.run Try.prog F.P F.A F.R (fun _ _=>none) (Zm9 vs)⟩
@[reducible] def r0 {γ:Type} : Nat→List V→Option γ:=fun _ _=>none
noncomputable def Fn.lp (F:Fn) (p:List Nat) (lv:Nat) (ρ:Nat→List V→Option (ShsT (K0 F.R F.A))) (k:Nat) (vs:List V):Option (ShsT (K0 F.R F.A)):=Zbe (fun rec vs=>STree.run Try.prog F.P F.A F.R (F.T.go p) (Zlh ρ lv rec) (bind Zdk 0 vs)) k vs
def Fn.chk (F : Fn) : Bool := !(F.fn.name == "runtime.NumGoroutine") && apsFine F.A
theorem Zi8:PlainSound Try.prog Zj6:=Zjw (by kernel_rfl)
theorem ZlX:Try.prog.follows .mixedOrders=true:=by kernel_rfl
theorem Fn.ok (F:Fn) {f:FuncId} (hf:Try.prog.funcs[f]? = some F.fn) (hc:F.chk=true) (hP:ZgF Try.prog F.P):F.S.Ok Try.prog f:=by
 simp only [Fn.chk,Bool.and_eq_true,Bool.not_eq_true'] at hc
 exact fun_ok (Φ:=F.P) (S:=F.S) (E:=F.E) ZlX Zi8 hf hc.1 hc.2 rfl (T:=F.T) rfl hP fun _=>rfl
end Go.Proofs.Ytmjkdbpffdampaa
