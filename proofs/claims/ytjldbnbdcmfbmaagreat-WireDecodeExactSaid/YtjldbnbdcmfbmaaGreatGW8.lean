import Derived.Test.YtjldbnbdcmfbmaaGreatM3
import Derived.Test.YtjldbnbdcmfbmaaGreatProg
import Derived.KernelRfl
open Bool renaming false→Xc
set_option linter.unusedVariables false
set_option linter.unusedSimpArgs false
set_option linter.defProp false
namespace Go.Proofs.YtjldbnbdcmfbmaaGreat
open Go Go.AM
def ZyL:List (Nat×Nat):=[(32,1),(113,1),(181,1),(218,1),(231,1),(219,1),(14,1),(124,2),(40,2),(43,2),(182,2),(125,2),(183,2),(126,2),(49,2),(41,2),(42,2),(44,2),(45,2),(48,2),(47,2),(46,2),(15,2),(76,1),(194,1),(161,1),(26,1),(27,1),(80,2),(135,1),(136,1),(137,1),(141,1),(145,1),(146,1),(147,1)]
def ZGK:List (Nat×Nat):=[(181,0),(124,0),(40,0),(43,0),(182,0),(125,0),(49,0),(41,0),(42,0),(44,0),(45,0),(48,0),(47,0),(46,0)]
def Zua:List Nat:=[25,28,31,81,145,147]
def atG (l:List (Nat×Nat)) (i:Nat):Nat:=match l with | []=>0 | (j,n)::r=>if i=j then n else atG r i
def ZII (l:List (Nat×List (Nat×Nat))) (i:Nat):List (Nat×Nat):=match l with | []=>[] | (j,n)::r=>if i=j then n else ZII r i
def ZtQ (k:List (Nat×List (Nat×HP))) (i:Nat):List (Nat×HP):=match k with | []=>[] | (j,l)::r=>if i=j then l else ZtQ r i
def ZJt (nt:Nat) (res:List Nat) (keep:List (Nat×List (Nat×HP))) (pins:List Nat) (ng:Nat) (ex:List Nat) (fz:List (Nat×List (Nat×Nat))):Env:={ nt,cons:=fun f i=>ZGK.contains (f,i),fresh:=atG ZyL,plain:=Zua,res,keep:=ZtQ keep,pins,ng,ex,fz:=ZII fz }
@[reducible] def hs0:List Sh:=[.int .i64,.int .i64,.int .i64,.int .i64,.int .i64,.int .i64,.int .i64,.int .i64,.int .i64,.int .i64,.int .i64,.bool,.int .i64,.int .i64,.int .i64,.int .i64,.int .i64,.int .i64,.int .i64,.int .i64,.int .i64,.int .i64,.int .i64,.int .i64,.int .i64,.int .i64,.int .i64,.int .i64,.int .i64,.int .i64,.int .i64,.int .i64,.slice 3,.int .i64,.int .i64,.int .i64,.int .i64,.int .i64,.int .i64,.bool,.slice 3,.slice 11,.slice 1,.slice 2,.int .i64,.int .i64,.slice 1,.slice 1,.slice 15,.slice 28,.slice 4,.slice 2,.slice 13,.slice 3,.int .i64,.int .i64,.slice 1,.slice 1,.slice 15,.slice 28,.slice 4,.slice 2,.slice 13,.slice 3,.bool,.int .i64,.slice 1,.slice 1,.slice 15,.slice 28,.slice 4,.slice 2,.slice 13,.slice 3]
@[reducible] def Qt1:Type:=LL×Int×Bool×Int×Int×Int×Int×Int×Int×Int×Int×Int×Int×Int×Bool×Int×Int×Int×Int×Int×Int×Int×Int×Int×Int×Int×Int×Int×Int×Int×Int×Int×Int×Int×Int×LL×Int×Int×Int×Int×Int×Int×Bool×LL×LL×LL×LL×Int×Int×LL×LL×LL×LL×LL×LL×LL×LL×Int×Int×LL×LL×LL×LL×LL×LL×LL×LL×Bool×Int×LL×LL×LL×LL×LL×LL×LL×LL
@[reducible] def Qt2:Type:=Int×Int×Int×Int×Int×Int×Int×Int×Int×Int×Int×Bool×Int×Int×Int×Int×Int×Int×Int×Int×Int×Int×Int×Int×Int×Int×Int×Int×Int×Int×Int×Int×LL×Int×Int×Int×Int×Int×Int×Bool×LL×LL×LL×LL×Int×Int×LL×LL×LL×LL×LL×LL×LL×LL×Int×Int×LL×LL×LL×LL×LL×LL×LL×LL×Bool×Int×LL×LL×LL×LL×LL×LL×LL×LL×LL×Bool
@[reducible] def Qt3:Type:=Bool×Int×Int×Int×Int×Int×Int×Int×Int×Int×Int×Int×Bool×Int×Int×Int×Int×Int×Int×Int×Int×Int×Int×Int×Int×Int×Int×Int×Int×Int×Int×Int×Int×LL×Int×Int×Int×Int×Int×Int×Bool×LL×LL×LL×LL×Int×Int×LL×LL×LL×LL×LL×LL×LL×LL×Int×Int×LL×LL×LL×LL×LL×LL×LL×LL×Bool×Int×LL×LL×LL×LL×LL×LL×LL×LL
@[reducible] def Qt4:Type:=Int×Int×Int×Int×Int×Int×Int×Int×Int×Int×Int×Bool×Int×Int×Int×Int×Int×Int×Int×Int×Int×Int×Int×Int×Int×Int×Int×Int×Int×Int×Int×Int×LL×Int×Int×Int×Int×Int×Int×Bool×LL×LL×LL×LL×Int×Int×LL×LL×LL×LL×LL×LL×LL×LL×Int×Int×LL×LL×LL×LL×LL×LL×LL×LL×Bool×Int×LL×LL×LL×LL×LL×LL×LL×LL×Int
@[reducible] def Qt5:Type:=Int×Int×Int×Int×Int×Int×Int×Int×Int×Int×Int×Bool×Int×Int×Int×Int×Int×Int×Int×Int×Int×Int×Int×Int×Int×Int×Int×Int×Int×Int×Int×Int×LL×Int×Int×Int×Int×Int×Int×Bool×LL×LL×LL×LL×Int×Int×LL×LL×LL×LL×LL×LL×LL×LL×Int×Int×LL×LL×LL×LL×LL×LL×LL×LL×Bool×Int×LL×LL×LL×LL×LL×LL×LL×LL
@[reducible] def hs6:List Sh:=[.int .i64,.int .i64,.int .i64,.int .i64,.int .i64,.int .i64,.int .i64,.int .i64,.int .i64,.int .i64,.int .i64,.int .i64,.int .i64,.int .i64,.int .i64,.int .i64,.int .i64,.int .i64,.int .i64,.int .i64,.slice 3,.int .i64,.int .i64,.int .i64,.int .i64,.int .i64,.int .i64,.bool]
@[reducible] def hs7:List Sh:=[.int .i64,.int .i64,.slice 1,.slice 1,.slice 15,.slice 28,.slice 4,.slice 2,.slice 13,.slice 3,.bool,.int .i64,.slice 1,.slice 1,.slice 15,.slice 28,.slice 4,.slice 2,.slice 13,.slice 3]
@[reducible] def Qt8:Type:=Int×Int×Int×Int×Int×Int×Int×Int×Int×Int×Int×Int×Int×Int×Int×Int×Int×Int×Int×Int×LL×Int×Int×Int×Int×Int×Int×Bool×LL×Int×Bool
@[reducible] def Qt9:Type:=Int×Int×Int×Int×Int×Int×Int×Int×Int×Int×Int×Int×Int×Int×Int×Int×Int×Int×Int×Int×LL×Int×Int×Int×Int×Int×Int×Bool×LL×Bool
@[reducible] def Qt10:Type:=Int×Int×Int×Int×Int×Int×Int×Int×Int×Int×Int×Int×Int×Int×Int×Int×Int×Int×Int×Int×LL×Int×Int×Int×Int×Int×Int×Bool
@[reducible] def hs11:List Sh:=[.int .i64,.int .i64,.int .i64,.slice 3,.int .i64,.int .i64,.int .i64,.int .i64,.int .i64,.int .i64,.bool,.int .i64,.int .i64,.int .i64,.int .i64]
@[reducible] def hs12:List Sh:=[.int .i64,.int .i64,.int .i64,.int .i64,.int .i64,.slice 3,.int .i64,.int .i64,.int .i64,.int .i64,.int .i64,.int .i64,.bool]
@[reducible] def hs13:List Sh:=[.int .i64,.int .i64,.int .i64,.int .i64,.int .i64,.int .i64,.int .i64,.int .i64,.int .i64,.int .i64,.int .i64,.int .i64]
@[reducible] def hs14:List Sh:=[.int .i64,.int .i64,.int .i64,.own Xc 25,.int .i64,.int .i64,.int .i64,.int .i64,.int .i64,.int .i64,.bool]
@[reducible] def Qt15:Type:=Int×Int×LL×LL×LL×LL×LL×LL×LL×LL×Bool×Int×LL×LL×LL×LL×LL×LL×LL×LL×LL×Int×Bool
@[reducible] def hs16:List Sh:=[.int .i64,.int .i64,.int .i64,.slice 3,.int .i64,.int .i64,.int .i64,.int .i64,.int .i64,.int .i64,.bool]
@[reducible] def Qt17:Type:=Int×Int×LL×LL×LL×LL×LL×LL×LL×LL×Bool×Int×LL×LL×LL×LL×LL×LL×LL×LL×LL×Bool
@[reducible] def hs18:List Sh:=[.bool,.int .i64,.int .i64,.int .i64,.int .i64,.int .i64,.int .i64,.int .i64,.int .i64,.bool]
@[reducible] def Qt19:Type:=Int×Int×LL×LL×LL×LL×LL×LL×LL×LL×Bool×Int×LL×LL×LL×LL×LL×LL×LL×LL
@[reducible] def hs20:List Sh:=[.own Xc 135,.own Xc 35,.own Xc 145,.own Xc 147,.own Xc 71,.slice 3]
@[reducible] def Qt21:Type:=Int×Int×Int×LL×Int×Int×Int×Int×Int×Int×Bool×Int×Int×Int×Int
@[reducible] def Qt22:Type:=Int×Int×Int×Int×Int×Int×Int×Int×Int×Int×Int×Int×LL×Int×Bool
@[reducible] def Qt23:Type:=Int×Int×Int×LL×Int×Int×Int×Int×Int×Int×Bool×LL×Int×Bool
@[reducible] def Qt24:Type:=Int×Int×Int×Int×Int×Int×Int×Int×Int×Int×Int×Int×LL×Bool
@[reducible] def Qt25:Type:=Int×Int×Int×Int×Int×LL×Int×Int×Int×Int×Int×Int×Bool
@[reducible] def Qt26:Type:=Int×Int×Int×LL×Int×Int×Int×Int×Int×Int×Bool×LL×Bool
@[reducible] def hs27:List Sh:=[.int .i64,.int .i64,.int .i64,.int .i64,.int .i64,.int .i64,.bool]
@[reducible] def Qt28:Type:=Int×Int×Int×LL×Int×Int×Int×Int×Int×Int×Bool×Int
@[reducible] def hs29:List Sh:=[.own true 135,.slice 28,.slice 4,.slice 2,.slice 13,.slice 3]
@[reducible] def hs30:List Sh:=[.slice 15,.slice 28,.slice 4,.slice 2,.slice 13,.slice 3]
@[reducible] def Qt31:Type:=Int×Int×Int×LL×Int×Int×Int×Int×Int×Int×Bool
@[reducible] def Qt32:Type:=Int×Int×Int×Int×Int×Int×Bool×Int
@[reducible] def Qt33:Type:=LL×LL×LL×LL×LL×LL×LL×Int×Bool
@[reducible] def Qt34:Type:=Int×Int×Int×Int×Int×Int×Bool
@[reducible] def Qt35:Type:=LL×LL×LL×LL×LL×LL×LL×Bool
@[reducible] def Qt36:Type:=Int×Int×Int×LL×Int×Bool
@[reducible] def Qt37:Type:=Int×LL×LL×LL×Int×Bool
@[reducible] def Qt38:Type:=LL×LL×LL×LL×LL×LL
structure Fn where
 nt:Nat
 res:List Nat
 keep:List (Nat×List (Nat×HP))
 pins:List Nat
 ng:Nat
 ex:List Nat
 fz:List (Nat×List (Nat×Nat))
 fn:Func
 A:List AP
 R:List RSh
 P:List (FuncId×Fun)
noncomputable def Fn.E (F:Fn):Env:=ZJt F.nt F.res F.keep F.pins F.ng F.ex F.fz
noncomputable def Fn.T (F:Fn):STree:=ZDf Tryz.prog F.E F.fn (Zby F.A 0) (Zya F.A)
noncomputable def Fn.S (F:Fn):Fun:=⟨F.A,F.R,fun vs=>F.T.run Tryz.prog F.P F.A F.R (fun _ _=>none) (ZBk vs)⟩
@[reducible] def r0 {γ:Type} : Nat→List V→Option γ:=fun _ _=>none
noncomputable def Fn.lp (F:Fn) (p:List Nat) (lv:Nat) (ρ:Nat→List V→Option (ShsT (Zcj F.R F.A))) (k:Nat) (vs:List V):Option (ShsT (Zcj F.R F.A)):=Ze5 (fun rec vs=>STree.run Tryz.prog F.P F.A F.R (F.T.go p) (Zx7 ρ lv rec) (bind Zj2 0 vs)) k vs
def Fn.chk (F : Fn) : Bool := !(F.fn.name == "runtime.NumGoroutine") && apsFine F.A
def Ztx:PlainSound Tryz.prog Zua:=ZsZ (by kernel_rfl)
def ZHw:Tryz.prog.follows .mixedOrders=true:=by kernel_rfl
def Fn.ok (F:Fn) {f:FuncId} (hf:Tryz.prog.funcs[f]? = some F.fn) (hP:Zre Tryz.prog F.P:=by exact trivial) (hc:F.chk=true:=by kernel_rfl):F.S.Ok Tryz.prog f:=by
 simp only [Fn.chk,Bool.and_eq_true,Bool.not_eq_true'] at hc;exact fun_ok (Φ:=F.P) (S:=F.S) (E:=F.E) ZHw Ztx hf hc.1 hc.2 rfl (T:=F.T) rfl hP fun _=>rfl
end Go.Proofs.YtjldbnbdcmfbmaaGreat
