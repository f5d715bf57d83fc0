/- What all trees of this seat are told. -/
import Derived.Test.YtlgmnddelljbmaaGreatM5
import Derived.Test.YtlgmnddelljbmaaGreatProg
import Derived.KernelRfl
namespace Go.Proofs.YtlgmnddelljbmaaGreat
open Go Go.AM
def ZpN:List (Nat×Nat):=[(108,2),(147,1),(51,2),(88,1),(102,1),(47,1),(154,1),(155,1),(157,1),(158,1),(202,1),(156,1),(106,2),(49,2),(160,1),(95,1),(94,2),(44,1),(14,1),(109,2),(52,2),(23,1),(21,1),(96,1),(105,2),(39,1),(11,1),(53,1),(15,1),(19,1),(62,1),(73,1),(72,1),(122,1),(66,1),(67,1),(125,1),(76,1),(137,1)]
def ZtU:List (Nat×Nat):=[(88,0),(88,2),(102,0),(94,0),(105,0)]
def ZmE:List Nat:=[33,36,44,115,134,186,188]
def rbG:List (Nat×List Sh):=[(9,[.int .i64,.int .i64,.int .i64,.bool,.slice 13,.own true 46,.int .i64,.int .i64,.int .i64,.int .i64,.int .i64,.int .i64,.int .i64,.int .i64,.int .i64,.int .i64,.int .i64,.int .i64,.int .i64,.int .i64,.int .i64,.int .i64,.int .i64,.int .i64,.int .i64,.int .i64,.slice 3,.int .i64,.int .i64,.int .i64,.int .i64,.int .i64,.int .i64,.bool,.int .i64,.own true 3,.slice 1,.slice 3])]
def Zvp:List (Nat×Nat):=[(52,0),(109,0),(40,0),(89,0)]
def ksG:List (Nat×Nat×Nat):=[(208,(207,229))]
def ZuP (l:List (Nat×List Sh)) (i:Nat):Option (List Sh):=match l with | []=>none | (j,x)::r=>if i=j then some x else ZuP r i
def atG (l:List (Nat×Nat)) (i:Nat):Nat:=match l with | []=>0 | (j,n)::r=>if i=j then n else atG r i
def ZuN (l:List (Nat×List (Nat×Nat))) (i:Nat):List (Nat×Nat):=match l with | []=>[] | (j,n)::r=>if i=j then n else ZuN r i
def Zmp (k:List (Nat×List (Nat×HP))) (i:Nat):List (Nat×HP):=match k with | []=>[] | (j,l)::r=>if i=j then l else Zmp r i
def ZvH (nt:Nat) (res:List Nat) (keep:List (Nat×List (Nat×HP))) (pins:List Nat) (ng:Nat) (ex:List Nat) (fz:List (Nat×List (Nat×Nat))):Env:={ nt,cons:=fun f i=>ZtU.contains (f,i),fresh:=atG ZpN,plain:=ZmE,res,keep:=Zmp keep,pins,ng,ex,fz:=ZuN fz,rb:=ZuP rbG,rfs:=fun f=>(Zvp.filter fun p=>p.1 == f).map (·.2),ks:=ksG }
@[reducible] def hs0:List Sh:=[.int .i64,.int .i64,.int .i64,.int .i64,.int .i64,.int .i64,.int .i64,.int .i64,.int .i64,.int .i64,.int .i64,.bool,.int .i64,.int .i64,.int .i64,.int .i64,.int .i64,.int .i64,.int .i64,.int .i64,.int .i64,.int .i64,.int .i64,.int .i64,.int .i64,.int .i64,.int .i64,.int .i64,.int .i64,.int .i64,.int .i64,.int .i64,.slice 3,.int .i64,.int .i64,.int .i64,.int .i64,.int .i64,.int .i64,.bool,.slice 3,.slice 11,.slice 1,.slice 2,.int .i64,.int .i64,.slice 1,.slice 1,.slice 15,.slice 28,.slice 4,.slice 2,.slice 13,.slice 3,.int .i64,.int .i64,.slice 1,.slice 1,.slice 15,.slice 28,.slice 4,.slice 2,.slice 13,.slice 3,.bool,.int .i64,.slice 1,.slice 1,.slice 15,.slice 28,.slice 4,.slice 2,.slice 13,.slice 3]
@[reducible] def Qt1:Type:=Int×Int×Int×Int×Int×Int×Int×Int×Int×Int×Int×Bool×Int×Int×Int×Int×Int×Int×Int×Int×Int×Int×Int×Int×Int×Int×Int×Int×Int×Int×Int×Int×LL×Int×Int×Int×Int×Int×Int×Bool×LL×LL×LL×LL×Int×Int×LL×LL×LL×LL×LL×LL×LL×LL×Int×Int×LL×LL×LL×LL×LL×LL×LL×LL×Bool×Int×LL×LL×LL×LL×LL×LL×LL×LL×Int×Int×Int×Bool×LL×LL×Int×Int×Int×Int×Int×Int×Int×Int×Int×Int×Int×Int×Int×Int×Int×Int×Int×Int×Int×Int×LL×Int×Int×Int×Int×Int×Int×Bool×Int×LL×LL×LL
@[reducible] def Qt3:Type:=Int×Int×Int×Int×Int×Int×Int×Int×Int×Int×Int×Bool×Int×Int×Int×Int×Int×Int×Int×Int×Int×Int×Int×Int×Int×Int×Int×Int×Int×Int×Int×Int×LL×Int×Int×Int×Int×Int×Int×Bool×LL×LL×LL×LL×Int×Int×LL×LL×LL×LL×LL×LL×LL×LL×Int×Int×LL×LL×LL×LL×LL×LL×LL×LL×Bool×Int×LL×LL×LL×LL×LL×LL×LL×LL
@[reducible] def hs4:List Sh:=[.int .i64,.int .i64,.int .i64,.bool,.slice 13,.own true 46,.int .i64,.int .i64,.int .i64,.int .i64,.int .i64,.int .i64,.int .i64,.int .i64,.int .i64,.int .i64,.int .i64,.int .i64,.int .i64,.int .i64,.int .i64,.int .i64,.int .i64,.int .i64,.int .i64,.int .i64,.slice 3,.int .i64,.int .i64,.int .i64,.int .i64,.int .i64,.int .i64,.bool,.int .i64,.own true 3,.slice 1,.slice 3]
@[reducible] def Qt5:Type:=Bool×Int×Int×Int×Bool×LL×LL×Int×Int×Int×Int×Int×Int×Int×Int×Int×Int×Int×Int×Int×Int×Int×Int×Int×Int×Int×Int×LL×Int×Int×Int×Int×Int×Int×Bool×Int×LL×LL×LL×Int×Int×Int×Int×Int×Int×Int×Int×Int×Int×Int×Int×Int×Int×Int×Int×Int×Int×Int×Int×LL×Int×Int×Int×Int×Int×Int×Bool
@[reducible] def Qt6:Type:=Int×Int×Int×Int×Bool×LL×LL×Int×Int×Int×Int×Int×Int×Int×Int×Int×Int×Int×Int×Int×Int×Int×Int×Int×Int×Int×Int×LL×Int×Int×Int×Int×Int×Int×Bool×Int×LL×LL×LL×Int×Int×Int×Int×Int×Int×Int×Int×Int×Int×Int×Int×Int×Int×Int×Int×Int×Int×Int×Int×LL×Int×Int×Int×Int×Int×Int×Bool
@[reducible] def hs7:List Sh:=[.int .i64,.int .i64,.int .i64,.int .i64,.int .i64,.int .i64,.int .i64,.int .i64,.int .i64,.int .i64,.int .i64,.int .i64,.int .i64,.int .i64,.int .i64,.int .i64,.int .i64,.int .i64,.int .i64,.int .i64,.slice 3,.int .i64,.int .i64,.int .i64,.int .i64,.int .i64,.int .i64,.bool]
@[reducible] def Qt8:Type:=Int×Int×Int×LL×Int×Int×Int×Int×Int×Int×Bool×Bool×Int×Int×Int×Bool×LL×LL×Int×Int×Int×Int×Int×Int×Int×Int×Int×Int×Int×Int×Int×Int×Int×Int×Int×Int×Int×Int×LL×Int×Int×Int×Int×Int×Int×Bool×Int×LL×LL×LL
@[reducible] def Qt9:Type:=LL×Int×Int×Int×Int×Bool×LL×LL×Int×Int×Int×Int×Int×Int×Int×Int×Int×Int×Int×Int×Int×Int×Int×Int×Int×Int×Int×Int×LL×Int×Int×Int×Int×Int×Int×Bool×Int×LL×LL×LL
@[reducible] def Qt10:Type:=LL×LL×Int×Int×Int×Bool×LL×LL×Int×Int×Int×Int×Int×Int×Int×Int×Int×Int×Int×Int×Int×Int×Int×Int×Int×Int×Int×Int×LL×Int×Int×Int×Int×Int×Int×Bool×Int×LL×LL×LL
@[reducible] def Qt11:Type:=Bool×Int×Int×Int×Bool×LL×LL×Int×Int×Int×Int×Int×Int×Int×Int×Int×Int×Int×Int×Int×Int×Int×Int×Int×Int×Int×Int×LL×Int×Int×Int×Int×Int×Int×Bool×Int×LL×LL×LL
@[reducible] def Qt12:Type:=LL×Int×Int×Int×Bool×LL×LL×Int×Int×Int×Int×Int×Int×Int×Int×Int×Int×Int×Int×Int×Int×Int×Int×Int×Int×Int×Int×LL×Int×Int×Int×Int×Int×Int×Bool×Int×LL×LL×LL
@[reducible] def Qt13:Type:=Int×Int×Int×Bool×LL×LL×Int×Int×Int×Int×Int×Int×Int×Int×Int×Int×Int×Int×Int×Int×Int×Int×Int×Int×Int×Int×LL×Int×Int×Int×Int×Int×Int×Bool×Int×LL×LL×LL
@[reducible] def hs14:List Sh:=[.int .i64,.int .i64,.slice 1,.slice 1,.slice 15,.slice 28,.slice 4,.slice 2,.slice 13,.slice 3,.bool,.int .i64,.slice 1,.slice 1,.slice 15,.slice 28,.slice 4,.slice 2,.slice 13,.slice 3]
@[reducible] def Qt15:Type:=Bool×Int×Int×Int×Int×Int×Int×Int×Int×Int×Int×Int×Int×Int×Int×Int×Int×Int×Int×Int×Int×LL×Int×Int×Int×Int×Int×Int×Bool
@[reducible] def Qt16:Type:=Int×Int×Int×Int×Int×Int×Int×Int×Int×Int×Int×Int×Int×Int×Int×Int×Int×Int×Int×Int×LL×Int×Int×Int×Int×Int×Int×Bool
@[reducible] def hs17:List Sh:=[.int .i64,.int .i64,.int .i64,.slice 3,.int .i64,.int .i64,.int .i64,.int .i64,.int .i64,.int .i64,.bool,.int .i64,.int .i64,.int .i64,.int .i64]
@[reducible] def hs18:List Sh:=[.int .i64,.int .i64,.int .i64,.int .i64,.int .i64,.slice 3,.int .i64,.int .i64,.int .i64,.int .i64,.int .i64,.int .i64,.bool]
@[reducible] def hs19:List Sh:=[.int .i64,.int .i64,.int .i64,.slice 3,.int .i64,.int .i64,.int .i64,.int .i64,.int .i64,.int .i64,.bool]
@[reducible] def hs20:List Sh:=[.bool,.int .i64,.int .i64,.int .i64,.int .i64,.int .i64,.int .i64,.int .i64,.int .i64,.bool]
@[reducible] def Qt21:Type:=Int×Int×Int×Int×Int×LL×Int×Int×Int×Int×Int×Int×Bool
@[reducible] def hs22:List Sh:=[.int .i64,.int .i64,.int .i64,.int .i64,.int .i64,.int .i64,.bool]
@[reducible] def Qt23:Type:=Int×Int×Int×LL×Int×Int×Int×Int×Int×Int×Bool×Int
@[reducible] def Qt24:Type:=Int×Int×Int×LL×Int×Int×Int×Int×Int×Int×Bool
@[reducible] def hs25:List Sh:=[.slice 15,.slice 28,.slice 4,.slice 2,.slice 13,.slice 3]
@[reducible] def Qt26:Type:=Int×Int×Int×Int×Int×Int×Bool
structure Fn where
 nt:Nat
 res:List Nat
 keep:List (Nat×List (Nat×HP))
 pins:List Nat
 ng:Nat
 ex:List Nat
 fz:List (Nat×List (Nat×Nat))
 fn:Func
 A:List AP
 R:List RSh
 P:List (FuncId×Fun)
noncomputable def Fn.E (F:Fn):Env:=ZvH F.nt F.res F.keep F.pins F.ng F.ex F.fz
noncomputable def Fn.T (F:Fn):STree:=ZrF Tryz.prog F.E F.fn (V8 F.A 0) (ZoL F.A)
noncomputable def Fn.S (F:Fn):Fun:=⟨F.A,F.R,fun vs=>F.T.run Tryz.prog F.P F.A F.R (fun _ _=>none) (Zqj vs)⟩
@[reducible] def r0 {γ:Type} : Nat→List V→Option γ:=fun _ _=>none
noncomputable def Fn.lp (F:Fn) (p:List Nat) (lv:Nat) (ρ:Nat→List V→Option (ShsT (WY F.R F.A))) (k:Nat) (vs:List V):Option (ShsT (WY F.R F.A)):=Zb0 (fun rec vs=>STree.run Tryz.prog F.P F.A F.R (F.T.go p) (Zod ρ lv rec) (bind Zfl 0 vs)) k vs
def Fn.chk (F : Fn) : Bool := !(F.fn.name == "runtime.NumGoroutine") && apsFine F.A
theorem ZnZ:KU Tryz.prog ksG:=Zip
theorem Zlg (F:Fn):EnvSound Tryz.prog F.E:=⟨Zlz (plain:=ZmE) (by kernel_rfl),ZnZ⟩
theorem mixed:Tryz.prog.follows .mixedOrders=true:=by kernel_rfl
theorem Fn.ok (F:Fn) {f:FuncId} (hf:Tryz.prog.funcs[f]? = some F.fn) (hc:F.chk=true) (hP:ZkI Tryz.prog F.P):F.S.Ok Tryz.prog f:=by
 simp only [Fn.chk,Bool.and_eq_true,Bool.not_eq_true'] at hc
 exact fun_ok (Φ:=F.P) (S:=F.S) (E:=F.E) mixed (Zlg F) hf hc.1 hc.2 rfl (T:=F.T) rfl hP fun _=>rfl
end Go.Proofs.YtlgmnddelljbmaaGreat
