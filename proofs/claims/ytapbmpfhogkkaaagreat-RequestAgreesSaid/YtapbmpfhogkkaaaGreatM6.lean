/- EndM, M11a, M11b, M12a, M12d, M18a, M18b, M18c, M18d, M18e, M18f, M18g, M18h, M18i, M18j, M24a, M24c, M24d, ML23a, ML23b, ML23c, ML23d, MJ11a, MJ11b, ML23f, ML23g, ML23h, ML23i, ML23j, MG11b, Ma, Mb, Mc, Md, Mta, Mtb, Mtc, Mtd, Mte: texts of the proof, put together. -/
import Derived.Test.YtapbmpfhogkkaaaGreatRows
import Derived.Test.YtapbmpfhogkkaaaGreatChecked
import Derived.Test.YtapbmpfhogkkaaaGreatM4
import Derived.JoinedOf
import Derived.JoinedAt
import Derived.RowKit3
import Derived.KernelRfl
import Derived.Test.YtapbmpfhogkkaaaGreatFMh

section
namespace Go.Proofs.YtapbmpfhogkkaaaGreat
open Go Go.AM
set_option maxRecDepth 100000
theorem behind : ∃ ws, behindMainWord (wordsSigns Tryz.prog.initOrder.toList) = "cut".toList :: ws := by
 have h:Tryz.prog.initOrder.toList=_:=String.toList_ofList (l:=_)
 rw [h]
 exact ZdD (by kernel_rfl) (by kernel_rfl) (by kernel_rfl) (by kernel_rfl) (by kernel_rfl) (by kernel_rfl)
theorem Zny:Tryz.prog.mayEnter=true:=behind.elim fun _ h=>Go.AM.enters_of h (by kernel_rfl) (by kernel_rfl) (by kernel_rfl)
theorem Zpy:Tryz.prog.liftsFinal=false:=behind.elim fun _ h=>Go.AM.final_of h
theorem ZmQ:Tryz.prog.make=some .cut:=behind.elim fun _ h=>Go.AM.make_of h
theorem Zqz:laidOutB Tryz.prog=true:=by kernel_rfl
theorem ZiE:ownKnob Tryz.prog.godebug=none:=by kernel_rfl
theorem Kv {d:Nat} {cs:List AV} (h:TyR Tryz.prog (d+1) 3 cs):∃ z,cs = [I z]:=by
 simp only [TyR,Tryz.underlying3] at h
 obtain ⟨z,h,_⟩:=h
 exact ⟨z,h⟩
theorem arg_int {x:AV} (h:VW Tryz.prog 12 3 x):∃ z,x=I z:=by
 simp only [VW,Tryz.underlying3] at h
 obtain ⟨z,hz⟩:=Kv h.2
 exact ⟨z,by simpa using hz⟩
def Zk0 (z:Int):List AV:=[I z]
def Zd (l:List Int):List (List AV):=l.map Zk0
structure Id where
 core:Int
 op:Int
 part:Int
 deriving DecidableEq
def idc (i:Id):List AV:=[I i.core,I i.op,I i.part]
def Zl (l:List Id):List (List AV):=l.map idc
theorem Za2 {α β:Type} {f:α→β} {p:α→Prop} : ∀ (xs:List β),(∀ x∈xs,∃ a,x=f a∧p a)→∃ l:List α,xs=l.map f∧∀ a∈l,p a
 | [], _ => ⟨[], rfl, by simp⟩
 | x :: xs, h => by
  obtain ⟨a,h1,h2⟩:=h x (by simp)
  obtain ⟨l,h3,h4⟩:=Za2 xs fun y hy=>h y (by simp [hy])
  refine ⟨a::l,by rw [h1,h3];rfl,fun b hb=>?_⟩
  rcases List.mem_cons.1 hb with rfl | hb
  ·exact h2
  ·exact h4 b hb
theorem Zn8:Tryz.prog.cellsOf 3=1:=by kernel_rfl
theorem ZjG {x:AV} (h:VW Tryz.prog 12 22 x):∃ l,x = .slice false 1 (Zd l)∧l.length≤maxLen:=by
 simp only [VW,Tryz.underlying22] at h
 have hh:=h.2
 rw [TyR] at hh
 simp only [Tryz.underlying22,Zn8] at hh
 obtain ⟨xs,h1,h2,h3⟩:=hh
 obtain ⟨l,rfl,h5⟩:=Za2 (f:=Zk0) (p:=fun _=>True) xs fun y hy=>by
  have:=h3 y hy
  rw [TyR] at this
  simp only [Tryz.underlying3] at this
  obtain ⟨z,rfl,hz⟩:=this
  exact ⟨z,rfl,trivial⟩
 exact ⟨l,by simpa [Zd] using h1,by simpa using h2⟩
def ZlE:List TypeId:=[3,4,22,23,25]
theorem ZoT (t:TypeId) (h:ZlE.contains t=true):WN Tryz.prog 12 t=true∧t < Tryz.prog.types.size∧Tryz.prog.readableRec t=true:=by
 have h2:ZlE.all (fun t=>WN Tryz.prog 12 t&&decide (t < Tryz.prog.types.size)&&Tryz.prog.readableRec t)=true:=by kernel_rfl
 rw [List.all_eq_true] at h2
 have:=h2 t (by simpa using h)
 simpa [and_assoc] using this
end Go.Proofs.YtapbmpfhogkkaaaGreat
end

section
namespace Go.Proofs.YtapbmpfhogkkaaaGreat
open Go Go.AM
set_option linter.unusedSimpArgs false
set_option linter.unusedVariables false
set_option maxRecDepth 100000
def Y1 (k b:Int):Bool:=decide ((k=1∧6≤b∧b≤40)∨(k=2∧12≤b∧b≤40)∨(k=3∧b=12)∨(k=4∧b=6)∨(k=5∧b=10)∨(k=6∧b=16))
theorem s91 (k b:Int):g91 k b=some (Y1 k b):=by
 rw [Zmm]
 repeat' split
 all_goals (refine congrArg some ?_;rw [Z6];simp only [Y1,CQ] at *; omega)
def Zeo (k:Int):Int:=if k=3 then 12 else if k=4 then 6 else if k=5 then 10 else if k=6 then 16 else 0
theorem Zqy (k:Int):Zpa k=some (Zeo k):=by
 rw [ZlM]
 simp only [CQ,Zeo]
 repeat' split
 all_goals first | rfl | omega
theorem s98 (k b:Int):g98 k b=some (Y1 k b):=by
 rw [Zml]
 simp only [Zqy,Option.bind_some]
 repeat' split
 all_goals (refine congrArg some ?_;rw [Z6];simp only [Y1,CQ] at *; first | omega | (rcases (by omega:k=3∨k=4∨k=5∨k=6) with rfl | rfl | rfl | rfl<;>simp [Zeo]))
def VN (w l:Int):Bool:=decide ((w=32∧0≤l∧l≤1)∨(w=39∧0≤l∧l≤2))
theorem s92 (w l:Int):g92 w l=some (VN w l):=by
 rw [ZnM]
 repeat' split
 all_goals (refine congrArg some ?_;rw [Z6];simp only [VN,CQ] at *; omega)
theorem s99 (w l:Int):g99 w l=some (VN w l):=by
 rw [ZnJ]
 repeat' split
 all_goals (refine congrArg some ?_;rw [Z6];simp only [VN,CQ] at *; omega)
def JN (a b:Int):Bool:=decide (6≤b∧b≤40∧0≤a∧a % 2^b.toNat=0∧a+2^b.toNat≤1099511627776)
theorem Zft {b:Int} (h:b≤40):(2:Int)^b.toNat≤1099511627776:=by
 have:=Zhm (m:=b.toNat) (n:=40) (by omega)
 have e:(2:Int)^40=1099511627776:=by decide
 omega
theorem Zex {a:Int} {n:Nat} (h:0≤a):iop .rem .i64 a (2^n)=a % 2^n:=Int.tmod_eq_emod_of_nonneg h
theorem Zoo {b:Int} (h:b≤40):iop .sub .i64 1099511627776 (2^b.toNat)=1099511627776-2^b.toNat:=by
 have:=Zft h
 have:=Yv b.toNat
 exact Wk (by omega) (by omega)
theorem s55 (a b:Int):g55 a b=some (JN a b):=by
 have hp:=Yv b.toNat
 rw [ZmU]
 by_cases h1:6≤b∧b≤40∧0≤a
 ·obtain ⟨h1,h2,h3⟩:=h1
  have hs:iop .shl .i64 1 b=2^b.toNat:=Zmz (by omega)
  have hr:Zi ((0:Int)≤b)=fun (x:Option Bool)=>x:=funext fun x=>ZC (by omega) x
  have hn:Zi (((2:Int)^b.toNat)≠0)=fun (x:Option Bool)=>x:=funext fun x=>ZC (by omega) x
  simp only [hs,hr,hn,Zex h3,Zoo h2]
  repeat' split
  all_goals (refine congrArg some ?_;rw [Z6];simp only [JN,CQ] at *; omega)
 ·have hf:JN a b=false:=by simp only [JN,decide_eq_false_iff_not];omega
  rw [hf]
  repeat' split
  all_goals first | rfl | (exfalso;simp only [CQ] at *; omega)
theorem s33 (a b:Int):g33 a b=some (JN a b):=by
 have hp:=Yv b.toNat
 rw [ZmG]
 by_cases h1:6≤b∧b≤40∧0≤a
 ·obtain ⟨h1,h2,h3⟩:=h1
  have hw:IntKind.wrap .u64 b=b:=W4 (by omega) (by omega)
  have hs:iop .shl .i64 1 b=2^b.toNat:=Zmz (by omega)
  have hr:Zi ((0:Int)≤b)=fun (x:Option Bool)=>x:=funext fun x=>ZC (by omega) x
  have hn:Zi (((2:Int)^b.toNat)≠0)=fun (x:Option Bool)=>x:=funext fun x=>ZC (by omega) x
  have h40:=Zft h2
  simp only [hw,hs,hr,hn,Zex h3]
  repeat' split
  all_goals (refine congrArg some ?_;rw [Z6];simp only [JN,CQ] at *; first | omega | (rw [J5 (by omega) (by omega)] at *; omega))
 ·have hf:JN a b=false:=by simp only [JN,decide_eq_false_iff_not];omega
  rw [hf]
  repeat' split
  all_goals first | rfl | (exfalso;simp only [CQ] at *; omega)
def Yr (a b:Int):Int:=if JN a b=true then a+2^b.toNat else 0
theorem V0 {a b:Int} (h:JN a b=true):6≤b∧b≤40∧0≤a∧a % 2^b.toNat=0∧a+2^b.toNat≤1099511627776:=by simpa [JN] using h
theorem Zin {a b:Int} (h:JN a b=true):iop .add .i64 a (iop .shl .i64 1 b)=Yr a b:=by
 obtain ⟨h1,h2,h3,h4,h5⟩:=V0 h
 have:=Yv b.toNat
 rw [Zmz (by omega),J5 (by omega) (by omega),Yr,if_pos h]
def Zks (a b c d:Int):Bool:=JN a b&&JN c d&&decide (a < Yr c d)&&decide (c < Yr a b)
def inB (a b c d:Int):Bool:=JN a b&&JN c d&&decide (a≤c)&&decide (Yr c d≤Yr a b)
structure Cap where
 kind:Int
 base:Int
 bits:Int
 rights:Int
 width:Int
 level:Int
 device:Bool
theorem s29 (k b s r w l:Int) (d:Bool):g29 k b s r w l d=some (b,s):=Znq ..
theorem s65 (k b s r w l:Int) (d:Bool):g65 k b s r w l d=some (b,s):=ZmX ..
def JT (c:Cap):Bool:=Y1 c.kind c.bits&&JN c.base c.bits&&decide (0≤c.rights∧c.rights≤7)&&(if c.kind=3 then VN c.width c.level else decide (c.width=0∧c.level=0))&&(!c.device||decide (c.kind=1)||decide (c.kind=2))
theorem s90 (k b s r w l:Int) (d:Bool):g90 k b s r w l d=some (JT ⟨k,b,s,r,w,l,d⟩):=by
 rw [Zmh]
 simp only [s91,s29,s55,s92,Option.bind_some]
 repeat' split
 all_goals (refine congrArg some ?_;rw [Z6];simp only [JT,CQ] at *; grind)
theorem s76 (k b s r w l:Int) (d:Bool):g76 k b s r w l d=some (JT ⟨k,b,s,r,w,l,d⟩):=by
 rw [Zop]
 simp only [s98,s65,s33,s99,Option.bind_some]
 repeat' split
 all_goals (refine congrArg some ?_;rw [Z6];simp only [JT,CQ] at *; grind)
end Go.Proofs.YtapbmpfhogkkaaaGreat
end

section
namespace Go.Proofs.YtapbmpfhogkkaaaGreat
open Go Go.AM
set_option linter.unusedSimpArgs false
set_option linter.unusedVariables false
set_option maxRecDepth 100000
def Zh5 (obj a sz bits r w l:Int) (d:Bool) (j:Nat):List AV:=[I obj,I (a+j*sz),I bits,I r,I w,I l,B d]
def Jv (obj a sz bits r w l:Int) (d:Bool) (n:Nat):List (List AV):=(List.range n).map (Zh5 obj a sz bits r w l d)
theorem VZ (obj a sz bits r w l:Int) (d:Bool) (n:Nat):Jv obj a sz bits r w l d (n+1)=Jv obj a sz bits r w l d n++[Zh5 obj a sz bits r w l d n]:=by
 simp [Jv,List.range_succ]
theorem KL (obj a sz bits r w l:Int) (d:Bool) (n:Nat):(Jv obj a sz bits r w l d n).length=n:=by simp [Jv]
theorem Zb6 {n:Nat} (h:n < 2^64):n < ZZ:=by
 have:ZZ=1208925819614629174706176:=rfl
 omega
theorem Y8 {a b:List (List AV)} {k:Nat} (h:(a.length+b.length)*(k+1)≤1099511627776):Z5 a b k:=h
theorem ZeV {k b:Int} (h:Y1 k b=true):6≤b∧b≤40:=by
 simp only [Y1,decide_eq_true_eq] at h
 omega
theorem Zcv {c:Cap} (h:JT c=true):JN c.base c.bits=true:=by
 simp only [JT,Bool.and_eq_true] at h
 exact h.1.1.1.2
def JG (c:Cap) (obj bits level width off cnt:Int):Int:=
 if JT c=false∨c.kind≠1 then 5
 else if iop .and .i64 c.rights 2=0 then 8
 else if Y1 obj bits=false∨(obj=3∧VN width level=false)∨cnt < 1∨8 < cnt∨off < 0 then 1
 else if c.device=true∧obj≠1∧obj≠2 then 5
 else if off % 2^bits.toNat≠0∨2^c.bits.toNat-cnt*2^bits.toNat < off∨(obj=1∧c.bits≤bits) then 6
 else 0
def YR (c:Cap) (obj bits level width off cnt:Int):List (List AV):=
 if JG c obj bits level width off cnt=0 then Jv obj (c.base+off) (2^bits.toNat) bits c.rights (if obj=3 then width else 0) (if obj=3 then level else 0) c.device cnt.toNat else []
theorem Wn {c:Cap} {obj bits level width off cnt e:Int} (he:e≠0) (h:JG c obj bits level width off cnt=e) :
  some (E0,e)=some (YR c obj bits level width off cnt,JG c obj bits level width off cnt):=by
 simp only [YR,h,if_neg he]
theorem Zfh {c:Cap} {obj bits off cnt:Int} (hc:JT c=true) (hs:Y1 obj bits=true) (h1:1≤cnt) (h2:cnt≤8) (h3:0≤off) :
  iop .shl .i64 1 bits=2^bits.toNat∧iop .rem .i64 off (2^bits.toNat)=off % 2^bits.toNat∧iop .shl .i64 1 c.bits=2^c.bits.toNat∧iop .mul .i64 cnt (2^bits.toNat)=cnt*2^bits.toNat∧
   iop .sub .i64 (2^c.bits.toNat) (cnt*2^bits.toNat)=2^c.bits.toNat-cnt*2^bits.toNat∧(2:Int)^bits.toNat≠0∧0≤bits∧0≤c.bits∧0≤c.base∧c.base+2^c.bits.toNat≤1099511627776∧
   0 < (2:Int)^bits.toNat∧(2:Int)^bits.toNat≤1099511627776∧(2:Int)^bits.toNat≤cnt*2^bits.toNat∧0 < (2:Int)^c.bits.toNat∧bits≤40∧c.bits≤40:=by
 obtain ⟨b1,b2⟩:=ZeV hs
 obtain ⟨r1,r2,r3,r4,r5⟩:=V0 (Zcv hc)
 have p1:=Yv bits.toNat
 have p2:=Yv c.bits.toNat
 have q1:=Zft b2
 have q2:=Zft r2
 have m1:cnt*2^bits.toNat≤8*2^bits.toNat:=Int.mul_le_mul_of_nonneg_right (by omega) (by omega)
 have m2:1*2^bits.toNat≤cnt*2^bits.toNat:=Int.mul_le_mul_of_nonneg_right (by omega) (by omega)
 refine ⟨Zmz (by omega),Zex (by omega),Zmz (by omega),Zlb (by omega) (by omega),ZdI (by omega) (by omega),by omega,by omega,by omega,r3,r5,p1,q1,by omega,p2,b2,r2⟩
theorem Wq {γ:Type} {p:Prop} {_:Decidable p} (h:p):(Zi p:Option γ→Option γ)=fun x=>x:=funext fun x=>ZC h x
end Go.Proofs.YtapbmpfhogkkaaaGreat
end

section
namespace Go.Proofs.YtapbmpfhogkkaaaGreat
open Go Go.AM
set_option linter.unusedSimpArgs false
set_option linter.unusedVariables false
set_option maxRecDepth 100000
abbrev ZpG:List Sh:=[.int .i64,.int .i64,.int .i64]
def Zdx (i:Id):Bool:=decide (0≤i.core∧i.core < 32∧1≤i.op∧i.op≤1073741824∧0≤i.part∧i.part < 8)
def Zpg (a b c d e f:Int):Bool:=decide (a < d∨(a=d∧(b < e∨(b=e∧c < f))))
theorem JB (l:List Id):(Zl l).length=l.length:=by simp [Zl]
theorem Zjm (l:List Id) (n:Nat):(Zl l).take n=Zl (l.take n):=by simp [Zl,List.map_take]
theorem Znv {l:List Id} {i:Nat} {x:Id} (h:l[i]? = some x):(Zl l)[i]? = some (idc x):=by simp [Zl,h]
theorem Zd9 {γ:Type} {l:List Id} {i:Int} {x:Id} (k:(Int×Int×Int)→Option γ) (h0:0≤i) (h:l[i.toNat]? = some x):Zj (Zl l) i ZpG k=k (x.core,x.op,x.part):=
 YO (sh:=ZpG) (r:=(x.core,x.op,x.part)) k h0 (Znv h) rfl
theorem ZbP (a b c d e f:Int):((cop .eql a d&&(cop .eql b e&&(cop .eql c f&&true)))=true)↔((⟨a,b,c⟩:Id)=⟨d,e,f⟩):=by
 simp only [CQ,Id.mk.injEq,and_true]
structure K3 where
 id:Id
 path:List Id
 cap:Cap
def VI (n:K3) (i:Nat):Bool:=match n.path[i]? with | none=>true | some x=>Zdx x&&decide (x≠n.id)&&!(n.path.take i).contains x
def Jt (n:K3):Bool:=Zdx n.id&&JT n.cap&&decide (n.path.length≤8)&&(List.range n.path.length).all (VI n)
end Go.Proofs.YtapbmpfhogkkaaaGreat
end

section
namespace Go.Proofs.YtapbmpfhogkkaaaGreat
open Go Go.AM
set_option linter.unusedSimpArgs false
set_option linter.unusedVariables false
set_option maxRecDepth 100000
theorem s97 (a b c:Int):g97 a b c=some (Zdx ⟨a,b,c⟩):=by
 rw [Zn4]
 repeat' split
 all_goals (refine congrArg some ?_;rw [Z6];simp only [Zdx,CQ] at *; omega)
theorem l84 {l:List Id} (hl:l.length < 2^63) (a b c:Int):∀ (j i fuel:Nat),l.length=i+j→j < fuel→ZiS fuel (Zl l) a b c i=some ((l.drop i).contains ⟨a,b,c⟩):=by
 intro j
 induction j with
 | zero =>
  intro i fuel h hf
  obtain ⟨f,rfl⟩:∃ f,fuel=f+1:=⟨fuel-1,by omega⟩
  rw [ZfI,if_neg (by simp only [CQ,JB];omega),List.drop_of_length_le (by omega)]
  rfl
 | succ j ih =>
  intro i fuel h hf
  obtain ⟨f,rfl⟩:∃ f,fuel=f+1:=⟨fuel-1,by omega⟩
  have hi:i < l.length:=by omega
  have hat:l[(i:Int).toNat]? = some l[i]:=by simp
  have a4:iop .add .i64 i 1=((i+1:Nat):Int):=by rw [J5 (by omega) (by omega)];omega
  rw [ZfI,if_pos (by simp only [CQ,JB];omega),Zd9 _ (by omega) hat,a4,List.drop_eq_getElem_cons hi,List.contains_cons]
  by_cases he:l[i]=(⟨a,b,c⟩:Id)
  ·rw [if_pos (by rw [ZbP];exact he)]
   simp [he]
  ·rw [if_neg (by rw [ZbP];exact he),ih (i+1) f (by omega) (by omega)]
   have:((⟨a,b,c⟩:Id) == l[i])=false:=by simp;exact fun h=>he h.symm
   rw [this,Bool.false_or]
theorem s84 (l:List Id) (hl:l.length < 2^63) (a b c:Int):g84 (Zl l) a b c=some (l.contains ⟨a,b,c⟩):=by
 have:=l84 hl a b c l.length 0 ZZ (by omega) (Zb6 (by omega))
 rw [ZnK]
 exact this
def Wr (n:K3) (i:Nat):Bool:=match n.path[i]? with | none=>true | some x=>Zdx x&&!(n.path.take i).contains x
theorem Zgh (n:K3):Jt n=(Zdx n.id&&JT n.cap&&decide (n.path.length≤8)&&(!n.path.contains n.id&&(List.range n.path.length).all (Wr n))):=by
 unfold Jt
 congr 1
 rw [Z6]
 simp only [Bool.and_eq_true,List.all_eq_true,List.mem_range,Bool.not_eq_true',← Bool.not_eq_true,List.contains_iff_mem]
 constructor
 ·intro h
  refine ⟨fun hc=>?_,fun i hi=>?_⟩
  ·obtain ⟨i,hi⟩:=List.mem_iff_getElem?.1 hc
   have:=h i (List.getElem?_eq_some_iff.1 hi).1
   unfold VI at this
   rw [hi] at this
   simp at this
  ·have:=h i hi
   unfold VI at this
   unfold Wr
   rw [List.getElem?_eq_getElem hi] at this ⊢
   simp only [Bool.and_eq_true] at this ⊢
   exact ⟨this.1.1,this.2⟩
 ·intro ⟨h1,h2⟩ i hi
  have:=h2 i hi
  unfold Wr at this
  unfold VI
  rw [List.getElem?_eq_getElem hi] at this ⊢
  simp only [Bool.and_eq_true,decide_eq_true_eq] at this ⊢
  exact ⟨⟨this.1,fun he=>h1 (he ▸ List.getElem_mem hi)⟩,this.2⟩
theorem l74 (n:K3) (hl:n.path.length < 2^63):∀ (j i fuel:Nat),n.path.length=i+j→j < fuel→
  ZjR fuel n.id.core n.id.op n.id.part (Zl n.path) n.cap.kind n.cap.base n.cap.bits n.cap.rights n.cap.width n.cap.level n.cap.device i=some ((List.range' i j).all (Wr n)):=by
 intro j
 induction j with
 | zero =>
  intro i fuel h hf
  obtain ⟨f,rfl⟩:∃ f,fuel=f+1:=⟨fuel-1,by omega⟩
  rw [Zfx,if_neg (by simp only [CQ,JB];omega)]
  rfl
 | succ j ih =>
  intro i fuel h hf
  obtain ⟨f,rfl⟩:∃ f,fuel=f+1:=⟨fuel-1,by omega⟩
  have hi:i < n.path.length:=by omega
  have hat:n.path[(i:Int).toNat]? = some n.path[i]:=by simp
  have a4:iop .add .i64 i 1=((i+1:Nat):Int):=by rw [J5 (by omega) (by omega)];omega
  have hp:Wr n i=(Zdx n.path[i]&&!(n.path.take i).contains n.path[i]):=by
   unfold Wr
   rw [List.getElem?_eq_getElem hi]
  have hlt:(n.path.take i).length < 2^63:=by rw [List.length_take];omega
  rw [Zfx,if_pos (by simp only [CQ,JB];omega),Zd9 _ (by omega) hat,a4,List.range'_succ,List.all_cons,hp]
  simp only [s97,Option.bind_some]
  cases h1:Zdx n.path[i] with
  | false => simp
  | true =>
   rw [if_neg (by simp),ZC (by omega),ZC (by rw [JB];omega),Zd9 _ (by omega) hat,Int.toNat_natCast,Zjm,s84 _ hlt,Option.bind_some]
   cases h3:(n.path.take i).contains n.path[i] with
   | true => simp
   | false =>
    rw [if_neg (by simp)]
    have:=ih (i+1) f (by omega) (by omega)
    rw [this]
    simp
theorem s74 (n:K3) (hl:n.path.length < 2^63):g74 n.id.core n.id.op n.id.part (Zl n.path) n.cap.kind n.cap.base n.cap.bits n.cap.rights n.cap.width n.cap.level n.cap.device=some (Jt n):=by
 rw [Znc,Zgh]
 simp only [s97,s76,Option.bind_some,JB,s84 _ hl]
 cases h1:Zdx n.id with
 | false => simp [show (⟨n.id.core, n.id.op, n.id.part⟩ : Id) = n.id from rfl, h1]
 | true =>
  cases h2:JT n.cap with
  | false => simp [show (⟨n.id.core, n.id.op, n.id.part⟩ : Id) = n.id from rfl, h1, show (⟨n.cap.kind, n.cap.base, n.cap.bits, n.cap.rights, n.cap.width, n.cap.level, n.cap.device⟩ : Cap) = n.cap from rfl, h2]
  | true =>
   rw [if_neg (by simp),if_neg (by simp)]
   by_cases h3:n.path.length≤8
   ·rw [if_neg (by simp only [CQ];omega)]
    cases h4:n.path.contains n.id with
    | true => simp
    | false =>
     rw [if_neg (by simp)]
     have:=l74 n hl n.path.length 0 ZZ (by omega) (Zb6 (by omega))
     have e:(List.range' 0 n.path.length)=List.range n.path.length:=(List.range_eq_range' ..).symm
     rw [e] at this
     refine this.trans ?_
     simp [h3]
   ·rw [if_pos (by simp only [CQ];omega)]
    simp [h3]
end Go.Proofs.YtapbmpfhogkkaaaGreat
end

section
namespace Go.Proofs.YtapbmpfhogkkaaaGreat
open Go Go.AM
set_option linter.unusedSimpArgs false
set_option linter.unusedVariables false
set_option maxRecDepth 100000
theorem ZcR {n:Nat} (h:n < 2^63):n+1 < ZZ:=by
 have:(2:Nat)^64≤ZZ:=by decide
 omega
theorem Wc {i n:Nat} (h:i < n) (hn:n < 2^63):iop .add .i64 (i:Int) 1=((i+1:Nat):Int):=by
 rw [J5 (by omega) (by omega)];omega
theorem WM {i n:Nat} (h:i < n):(cop .lss (i:Int) (n:Int))=true:=by
 simp only [CQ];omega
theorem WO {i n:Nat} (h:n≤i):¬ (cop .lss (i:Int) (n:Int))=true:=by
 simp only [CQ];omega
theorem Zfi {γ:Type} {F:Nat→Int→Option γ} {n:Nat} {fin bad:Option γ} (p:Nat→Bool) (hn:n < 2^63) (i0:Nat) (hi0:i0≤1)
  (step:∀ k i:Nat,i0≤i→i < n→F (k+1) (i:Int)=if p i=true then F k ((i+1:Nat):Int) else bad)
  (last:∀ k i:Nat,n≤i→F (k+1) (i:Int)=fin):F ZZ (i0:Int)=if (List.range' i0 (n-i0)).all p=true then fin else bad:=by
 have key:∀ (j i fuel:Nat),i0≤i→n≤i+j→j < fuel→F fuel (i:Int)=if (List.range' i (n-i)).all p=true then fin else bad:=by
  intro j
  induction j with
  | zero =>
   intro i fuel h0 h hf
   obtain ⟨f,rfl⟩:∃ f,fuel=f+1:=⟨fuel-1,by omega⟩
   rw [last f i (by omega),show n-i=0 by omega]
   rfl
  | succ j ih =>
   intro i fuel h0 h hf
   obtain ⟨f,rfl⟩:∃ f,fuel=f+1:=⟨fuel-1,by omega⟩
   by_cases hi:i < n
   ·rw [step f i h0 hi,show n-i=(n-(i+1))+1 by omega,List.range'_succ,List.all_cons]
    cases hp:p i with
    | true => rw [if_pos rfl, ih (i + 1) f (by omega) (by omega) (by omega), Bool.true_and]
    | false => rw [if_neg Bool.false_ne_true, Bool.false_and, if_neg Bool.false_ne_true]
   ·rw [last f i (by omega),show n-i=0 by omega]
    rfl
 exact key n i0 ZZ (Nat.le_refl _) (by omega) (by have:=ZcR hn;omega)
theorem ZfL {F:Nat→Int→Option Int} {n:Nat} (p:Nat→Bool) (hn:n < 2^63)
  (step:∀ k i:Nat,i < n→F (k+1) (i:Int)=if p i=true then some (i:Int) else F k ((i+1:Nat):Int))
  (last:∀ k i:Nat,n≤i→F (k+1) (i:Int)=some (-1)):∃ r,F ZZ 0=some r∧cop .geq r 0=(List.range' 0 n).any p:=by
 have key:∀ (j i fuel:Nat),n≤i+j→j < fuel→∃ r,F fuel (i:Int)=some r∧cop .geq r 0=(List.range' i (n-i)).any p:=by
  intro j
  induction j with
  | zero =>
   intro i fuel h hf
   obtain ⟨f,rfl⟩:∃ f,fuel=f+1:=⟨fuel-1,by omega⟩
   rw [last f i (by omega),show n-i=0 by omega]
   exact ⟨_,rfl,rfl⟩
  | succ j ih =>
   intro i fuel h hf
   obtain ⟨f,rfl⟩:∃ f,fuel=f+1:=⟨fuel-1,by omega⟩
   by_cases hi:i < n
   ·rw [step f i hi,show n-i=(n-(i+1))+1 by omega,List.range'_succ,List.any_cons]
    cases hp:p i with
    | true =>
     rw [if_pos rfl,Bool.true_or]
     refine ⟨_,rfl,?_⟩
     simp only [CQ]
     omega
    | false => rw [if_neg Bool.false_ne_true, Bool.false_or]; exact ih (i + 1) f (by omega) (by omega)
   ·rw [last f i (by omega),show n-i=0 by omega]
    exact ⟨_,rfl,rfl⟩
 have:=key n 0 ZZ (by omega) (by have:=ZcR hn;omega)
 simpa using this
def atB {α:Type} (q:α→Bool) (l:List α) (i:Nat):Bool:=match l[i]? with | some x=>q x | none=>true
theorem Zbz {α:Type} (q:α→Bool) {l:List α} {i:Nat} (h:i < l.length):atB q l i=q l[i]:=by
 unfold atB
 rw [List.getElem?_eq_getElem h]
theorem Zij {α:Type} (q:α→Bool) (l:List α):(List.range' 0 l.length).all (atB q l)=l.all q:=by
 rw [Z6,List.all_eq_true,List.all_eq_true]
 constructor
 ·intro h x hx
  obtain ⟨i,hi,rfl⟩:=List.getElem_of_mem hx
  have:=h i (by simp [List.mem_range',hi])
  rwa [Zbz q hi] at this
 ·intro h i hi
  have hi':i < l.length:=by simpa [List.mem_range'] using hi
  rw [Zbz q hi']
  exact h _ (List.getElem_mem hi')
theorem ZkK {α:Type} (q:α→Bool) (l:List α):(List.range' 0 l.length).any (fun i=>!atB q l i) = !(l.all q):=by
 rw [← Zij q l,List.any_eq_not_all_not]
 simp
def ZoX {α:Type} (lt:α→α→Bool) (l:List α):Nat→Bool
 | 0 => true
 | j + 1 => match l[j]?, l[j + 1]? with | some a, some b => lt a b | _, _ => true
def ZoE {α:Type} (lt:α→α→Bool) (l:List α):Bool:=(List.range' 0 l.length).all (ZoX lt l)
structure Call where
 kind:Int
 slot:Int
 dest:Int
 core:Int
 mask:Int
 object:Int
 bits:Int
 level:Int
 offset:Int
 count:Int
 index:Int
 addr:Int
structure Req where
 id:Id
 call:Call
 region:Int
 width:Int
 src:K3
structure YB where
 node:K3
 op:Int
 lock:Id
structure ZoM where
 region:Int
 op:Id
structure Ans where
 op:Int
 err:Int
structure ZT where
 core:Int
 slot:Int
 node:K3
structure ZqR where
 region:Int
 to:Int
structure Zl1 where
 number:Int
 members:List Int
 owners:List Int
structure Zcn where
 slots:List YB
 pending:List Req
 marks:List ZoM
 answers:List Ans
 entries:List ZT
 commits:List Id
structure Zb4 where
 core:Int
 view:Zl1
 state:Zcn
 ready:Bool
 next:Zl1
 proposal:Zcn
def Zer (n:K3):List AV:=[I n.id.core,I n.id.op,I n.id.part,.slice false 3 (Zl n.path),I n.cap.kind,I n.cap.base,I n.cap.bits,I n.cap.rights,I n.cap.width,I n.cap.level,B n.cap.device]
def YY (s:YB):List AV:=[I s.node.id.core,I s.node.id.op,I s.node.id.part,.slice false 3 (Zl s.node.path),I s.node.cap.kind,I s.node.cap.base,I s.node.cap.bits,I s.node.cap.rights,I s.node.cap.width,I s.node.cap.level,B s.node.cap.device,I s.op,I s.lock.core,I s.lock.op,I s.lock.part]
def Zm (e:ZT):List AV:=[I e.core,I e.slot,I e.node.id.core,I e.node.id.op,I e.node.id.part,.slice false 3 (Zl e.node.path),I e.node.cap.kind,I e.node.cap.base,I e.node.cap.bits,I e.node.cap.rights,I e.node.cap.width,I e.node.cap.level,B e.node.cap.device]
abbrev ZdY:List Sh:=[.int .i64,.int .i64,.int .i64,.slice 3,.int .i64,.int .i64,.int .i64,.int .i64,.int .i64,.int .i64,.bool]
abbrev ZdN:List Sh:=[.int .i64,.int .i64,.int .i64,.slice 3,.int .i64,.int .i64,.int .i64,.int .i64,.int .i64,.int .i64,.bool,.int .i64,.int .i64,.int .i64,.int .i64]
abbrev ZeL:List Sh:=[.int .i64,.int .i64,.int .i64,.int .i64,.int .i64,.slice 3,.int .i64,.int .i64,.int .i64,.int .i64,.int .i64,.int .i64,.bool]
def Zgn (n:K3):ShsT ZdY:=(n.id.core,n.id.op,n.id.part,Zl n.path,n.cap.kind,n.cap.base,n.cap.bits,n.cap.rights,n.cap.width,n.cap.level,n.cap.device)
def Zlc (s:YB):ShsT ZdN:=(s.node.id.core,s.node.id.op,s.node.id.part,Zl s.node.path,s.node.cap.kind,s.node.cap.base,s.node.cap.bits,s.node.cap.rights,s.node.cap.width,s.node.cap.level,s.node.cap.device,s.op,s.lock.core,s.lock.op,s.lock.part)
def KC (e:ZT):ShsT ZeL:=(e.core,e.slot,e.node.id.core,e.node.id.op,e.node.id.part,Zl e.node.path,e.node.cap.kind,e.node.cap.base,e.node.cap.bits,e.node.cap.rights,e.node.cap.width,e.node.cap.level,e.node.cap.device)
theorem YQ {α γ:Type} {f:α→List AV} {sh:List Sh} {v:α→ShsT sh} (hf:∀ x,ZiD sh (f x)=some (v x)) {l:List α} {i:Nat} (h:i < l.length) (k:ShsT sh→Option γ):Zj (l.map f) (i:Int) sh k=k (v l[i]):=by
 refine YO k (by omega) (cs:=f l[i]) ?_ (hf _)
 rw [Int.toNat_natCast,List.getElem?_map,List.getElem?_eq_getElem h]
 rfl
theorem ZbV {γ:Type} {l:List K3} {i:Nat} (h:i < l.length) (k:ShsT ZdY→Option γ):Zj (l.map Zer) (i:Int) ZdY k=k (Zgn l[i]):=YQ (fun _=>rfl) h k
theorem Zbw {γ:Type} {l:List YB} {i:Nat} (h:i < l.length) (k:ShsT ZdN→Option γ):Zj (l.map YY) (i:Int) ZdN k=k (Zlc l[i]):=YQ (fun _=>rfl) h k
theorem Zq {γ:Type} {l:List ZT} {i:Nat} (h:i < l.length) (k:ShsT ZeL→Option γ):Zj (l.map Zm) (i:Int) ZeL k=k (KC l[i]):=YQ (fun _=>rfl) h k
theorem J0 {γ:Type} {l:List Int} {i:Nat} (h:i < l.length) (k:Int→Option γ):Zj (Zd l) (i:Int) [.int .i64] k=k l[i]:=YQ (f:=Zk0) (sh:=[.int .i64]) (v:=fun x=>x) (fun _=>rfl) h k
end Go.Proofs.YtapbmpfhogkkaaaGreat
end

section
namespace Go.Proofs.YtapbmpfhogkkaaaGreat
open Go Go.AM
set_option linter.unusedSimpArgs false
set_option linter.unusedVariables false
set_option maxRecDepth 100000
def Zap (z:Int):Bool:=decide (0≤z∧z < 32)
def ZnI (z:Int):Bool:=decide (0≤z∧z < 16)
def ZmL (z:Int):Bool:=decide (0≤z∧z < 64)
def Zpn (z:Int):Bool:=decide (0≤z∧z≤99)
def ZlR (i:Id):Bool:=Zdx i&&decide (i.part=0)
def ZkZ (a b:K3):Bool:=decide (a.id=b.id)&&decide (a.cap.kind=b.cap.kind∧a.cap.base=b.cap.base∧a.cap.bits=b.cap.bits∧a.cap.rights=b.cap.rights∧a.cap.width=b.cap.width∧a.cap.level=b.cap.level∧a.cap.device=b.cap.device)&&decide (a.path=b.path)
def YG:K3:=⟨⟨0,0,0⟩,[],⟨0,0,0,0,0,0,false⟩⟩
def Zn3 (r:Req):Bool:=ZlR r.id&&decide (1≤r.call.kind∧r.call.kind≤6)&&ZnI r.region&&decide (r.width=32∨r.width=39)&&(if r.call.kind=1 then ZkZ r.src YG else Jt r.src)
end Go.Proofs.YtapbmpfhogkkaaaGreat
end

section
namespace Go.Proofs.YtapbmpfhogkkaaaGreat
open Go Go.AM
set_option linter.unusedSimpArgs false
set_option linter.unusedVariables false
set_option maxRecDepth 100000
def zid:Id:=⟨0,0,0⟩
def Zqj (i:Id) (t:YB):Bool:=!decide (t.node.id=zid)&&decide (t.node.id=i)
def Zo1 (s:YB):Bool:=decide (0≤s.op∧s.op≤1073741824)&&(if s.node.id=zid then ZkZ s.node YG&&decide (s.lock=zid) else Jt s.node&&(decide (s.lock=zid)||ZlR s.lock))
def Znm (l:List YB) (i:Nat):Bool:=match l[i]? with | some s=>!((l.take i).any (Zqj s.node.id)) | none=>true
def ZlP (l:List YB):Bool:=decide (l.length≤64)&&(List.range' 0 l.length).all (fun i=>atB Zo1 l i&&Znm l i)
theorem Zk5 (a b c:Int):((cop .eql a 0&&(cop .eql b 0&&(cop .eql c 0&&true)))=true)↔((⟨a,b,c⟩:Id)=zid):=ZbP a b c 0 0 0
end Go.Proofs.YtapbmpfhogkkaaaGreat
end

section
namespace Go.Proofs.YtapbmpfhogkkaaaGreat
open Go Go.AM
set_option linter.unusedSimpArgs false
set_option linter.unusedVariables false
set_option maxRecDepth 100000
def ZoQ (a b:Id):Bool:=Zpg a.core a.op a.part b.core b.op b.part
theorem s95 (a b c d e f:Int):g95 a b c d e f=some (Zpg a b c d e f):=by
 rw [Zmg]
 repeat' split
 all_goals (refine congrArg some ?_;rw [Z6];simp only [Zpg,CQ] at *; omega)
def Zne (m:ZoM):Bool:=ZnI m.region&&ZlR m.op
def Zo6 (a:Ans):Bool:=decide (1≤a.op∧a.op≤1073741824)&&Zpn a.err
def Zpv (e:ZT):Bool:=Zap e.core&&ZmL e.slot&&Jt e.node
def ltp:Req→Req→Bool:=fun a b=>ZoQ a.id b.id
def ltm:ZoM→ZoM→Bool:=fun a b=>decide (a.region < b.region)
def lta:Ans→Ans→Bool:=fun a b=>decide (a.op < b.op)
def lte:ZT→ZT→Bool:=fun a b=>ZoQ a.node.id b.node.id
def Zcs (s:Zcn):Bool:=ZlP s.slots&&(s.pending.all Zn3&&ZoE ltp s.pending)&&(s.marks.all Zne&&ZoE ltm s.marks)&&(s.answers.all Zo6&&ZoE lta s.answers)&&(s.entries.all Zpv&&ZoE lte s.entries)&&s.commits.all ZlR
end Go.Proofs.YtapbmpfhogkkaaaGreat
end

section
namespace Go.Proofs.YtapbmpfhogkkaaaGreat
open Go Go.AM
set_option linter.unusedSimpArgs false
set_option linter.unusedVariables false
set_option maxRecDepth 100000
theorem ZqN {n:Nat} (h:n≤maxLen):n < 2^63:=by
 have:maxLen+1=2^63:=by decide
 omega
end Go.Proofs.YtapbmpfhogkkaaaGreat
end

section
namespace Go.Proofs.YtapbmpfhogkkaaaGreat
open Go Go.AM
set_option linter.unusedSimpArgs false
set_option linter.unusedVariables false
set_option maxRecDepth 100000
theorem Z2 (l:List Int):(Zd l).length=l.length:=by simp [Zd]
def ZmN (z:Int):Bool:=decide (0≤z∧z≤1073741824)
theorem s93 (l:List Int) (hl:l.length < 2^63) (a:Int):∃ r,g93 (Zd l) a=some r∧cop .geq r 0=l.any (fun x=>decide (a=x)):=by
 rw [ZmK,Z2]
 have:=ZfL (F:=fun k i=>Zgx k (Zd l) a (l.length:Int) i) (n:=l.length) (fun i=>!atB (fun x=>!decide (a=x)) l i) hl
  (fun k i hi=>by
   show Zgx (k+1) _ _ _ _=_
   rw [Zfq,if_pos (WM hi)]
   refine (J0 hi _).trans ?_
   rw [Wc hi hl,Zbz _ hi,Bool.not_not]
   rfl)
  (fun k i hi=>by show Zgx (k+1) _ _ _ _=_;rw [Zfq,if_neg (WO hi)])
 rw [ZkK] at this
 have e:(!(l.all fun x=>!decide (a=x)))=l.any (fun x=>decide (a=x)):=by
  rw [List.any_eq_not_all_not]
 rw [e] at this
 exact this
theorem s59 (l:List Int) (hl:l.length < 2^63) (a:Int):g59 (Zd l) a=some (l.any (fun x=>decide (a=x))):=by
 obtain ⟨r,h1,h2⟩:=s93 l hl a
 rw [ZnQ,h1,Option.bind_some,h2]
theorem Zqr (l:List Int) (hl:l.length < 2^63) (a:Int):ZoZ (Zd l) a=some (l.any (fun x=>decide (a=x))):=by
 rw [Zlm]
 have:=Zfi (F:=fun k i=>Za5 k (Zd l) a i) (n:=l.length) (fin:=some false) (bad:=some true) (atB (fun x=>!decide (a=x)) l) hl 0 (by omega)
  (fun k i _ hi=>by
   show Za5 (k+1) (Zd l) _ _=_
   rw [Zc4,Z2,if_pos (WM hi)]
   refine (J0 hi _).trans ?_
   rw [Wc hi hl,Zbz _ hi]
   generalize Za5 k (Zd l) a ((i+1:Nat):Int)=X
   generalize l[i]=t
   by_cases h:a=t
   ·rw [if_pos (by simp only [CQ];exact h.symm),if_neg (by simp [h])]
   ·rw [if_neg (by simp only [CQ];exact fun he=>h he.symm),if_pos (by simp [h])])
  (fun k i hi=>by show Za5 (k+1) (Zd l) _ _=_;rw [Zc4,Z2,if_neg (WO hi)])
 rw [Nat.sub_zero,Zij] at this
 refine Eq.trans this ?_
 rw [List.any_eq_not_all_not]
 cases l.all (fun x=>!decide (a=x))<;>rfl
def ZpB (l:List Int) (i:Nat):Bool:=match l[i]? with | some x=>!((l.take i).any (fun y=>decide (x=y))) | none=>true
def ZhJ (v:Zl1):Bool:=ZmN v.number&&decide (v.members.length≤32)&&decide (v.owners.length≤16)&&(List.range' 0 v.members.length).all (fun i=>atB Zap v.members i&&ZpB v.members i)&&v.owners.all Zap
def Zns (r:Zb4):Bool:=Zap r.core&&ZhJ r.view&&Zcs r.state&&ZhJ r.next&&Zcs r.proposal
end Go.Proofs.YtapbmpfhogkkaaaGreat
end

section
namespace Go.Proofs.YtapbmpfhogkkaaaGreat
open Go Go.AM
set_option linter.unusedSimpArgs false
set_option linter.unusedVariables false
set_option maxRecDepth 100000
structure Msg where
 kind:Int
 view:Int
 frm:Int
 to:Int
 round:Int
 region:Int
 slot:Int
 op:Id
 err:Int
 settled:Bool
 req:Req
 ids:List Id
 nodes:List K3
 cores:List Int
 moves:List ZqR
 base:Int
 next:Zl1
 state:Zcn
 report:Zb4
def ZnT:Call:=⟨0,0,0,0,0,0,0,0,0,0,0,0⟩
def Zdd:Req:=⟨zid,ZnT,0,0,YG⟩
def Zhf:Zl1:=⟨0,[],[]⟩
def Zec:Zcn:=⟨[],[],[],[],[],[]⟩
def Zjw:Zb4:=⟨0,Zhf,Zec,false,Zhf,Zec⟩
def Zqc (r:Req):Bool:=decide (r.id=zid)&&decide (r.call.kind=0∧r.call.slot=0∧r.call.dest=0∧r.call.core=0∧r.call.mask=0∧r.call.object=0∧r.call.bits=0∧r.call.level=0∧r.call.offset=0∧r.call.count=0∧r.call.index=0∧r.call.addr=0)&&decide (r.region=0)&&decide (r.width=0)&&ZkZ r.src YG
def Zlp (v:Zl1):Bool:=decide (v.number=0)&&decide (v.members.length=0)&&decide (v.owners.length=0)
def Zg6 (s:Zcn):Bool:=decide (s.slots.length=0)&&decide (s.pending.length=0)&&decide (s.marks.length=0)&&decide (s.answers.length=0)&&decide (s.entries.length=0)&&decide (s.commits.length=0)
def Zk6 (r:Zb4):Bool:=decide (r.core=0)&&Zlp r.view&&Zg6 r.state&&!r.ready&&Zlp r.next&&Zg6 r.proposal
def zf (m:Msg):Nat→Bool
 | 0 => decide (m.region = 0)
 | 1 => Zqc m.req
 | 2 => decide (m.op = zid)
 | 3 => decide (m.err = 0)
 | 4 => !m.settled
 | 5 => decide (m.nodes.length = 0)
 | 6 => decide (m.slot = 0)
 | 7 => decide (m.ids.length = 0)
 | 8 => decide (m.round = 0)
 | 9 => decide (m.cores.length = 0)
 | 10 => Zk6 m.report
 | 11 => decide (m.base = 0)
 | 12 => Zlp m.next
 | 13 => Zg6 m.state
 | 14 => decide (m.moves.length = 0)
 | _ => true
end Go.Proofs.YtapbmpfhogkkaaaGreat
end

section
namespace Go.Proofs.YtapbmpfhogkkaaaGreat
open Go Go.AM
set_option linter.unusedSimpArgs false
set_option linter.unusedVariables false
set_option maxRecDepth 100000
def kf:Nat→List Nat
 | 1 => [0, 1]
 | 2 => [0, 2, 3, 4, 5]
 | 3 => [0, 2]
 | 4 => [0, 2, 6, 5]
 | 5 => [0, 2, 3]
 | 6 => [0, 2, 7]
 | 7 => [0, 2]
 | 8 => [0, 2]
 | 9 => [0, 2]
 | 10 => [0, 2]
 | 11 => [0, 2]
 | 12 => [8, 9]
 | 13 => [8, 10]
 | 14 => [8, 11, 9, 12, 13]
 | 15 => [8]
 | 16 => [8]
 | 17 => [9, 14]
 | _ => []
def kindOk (k:Int):Bool:=decide (1≤k∧k≤17)
def headOk (m:Msg):Bool:=kindOk m.kind&&ZmN m.view&&Zap m.frm&&Zap m.to
def rest (n:Nat) (m:Msg):Bool:=(List.range 15).all (fun g=>(kf n).contains g||zf m g)
end Go.Proofs.YtapbmpfhogkkaaaGreat
end

section
namespace Go.Proofs.YtapbmpfhogkkaaaGreat
open Go Go.AM
set_option linter.unusedSimpArgs false
set_option linter.unusedVariables false
set_option maxRecDepth 100000
end Go.Proofs.YtapbmpfhogkkaaaGreat
end

section
namespace Go.Proofs.YtapbmpfhogkkaaaGreat
open Go Go.AM
set_option linter.unusedSimpArgs false
set_option linter.unusedVariables false
set_option maxRecDepth 100000
end Go.Proofs.YtapbmpfhogkkaaaGreat
end

section
namespace Go.Proofs.YtapbmpfhogkkaaaGreat
open Go Go.AM
set_option linter.unusedSimpArgs false
set_option linter.unusedVariables false
set_option maxRecDepth 100000
theorem ZlA {α:Type} {F:Nat→LL→Int→Option LL} (l:List α) (f:α→LL) (hn:l.length < 2^63)
  (step:∀ (k i:Nat) (hi:i < l.length),F (k+1) ((l.take i).flatMap f) (i:Int)=F k ((l.take i).flatMap f++f l[i]) ((i+1:Nat):Int))
  (last:∀ (k:Nat) (acc:LL) (i:Nat),l.length≤i→F (k+1) acc (i:Int)=some acc):F ZZ [] 0=some (l.flatMap f):=by
 have key:∀ (j i fuel:Nat),l.length≤i+j→j < fuel→F fuel ((l.take i).flatMap f) (i:Int)=some (l.flatMap f):=by
  intro j
  induction j with
  | zero =>
   intro i fuel h hf
   obtain ⟨q,rfl⟩:∃ q,fuel=q+1:=⟨fuel-1,by omega⟩
   rw [last q _ i (by omega),List.take_of_length_le (by omega)]
  | succ j ih =>
   intro i fuel h hf
   obtain ⟨q,rfl⟩:∃ q,fuel=q+1:=⟨fuel-1,by omega⟩
   by_cases hi:i < l.length
   ·have e:(l.take i).flatMap f++f l[i]=(l.take (i+1)).flatMap f:=by
     rw [List.take_add_one,List.getElem?_eq_getElem hi,Option.toList_some,List.flatMap_append,List.flatMap_singleton]
    rw [step q i hi,e]
    exact ih (i+1) q (by omega) (by omega)
   ·rw [last q _ i (by omega),List.take_of_length_le (by omega)]
 exact key l.length 0 ZZ (by omega) (by have:=ZcR hn;omega)
theorem ZfQ {α:Type} (f:α→List AV) (l:List α):l.flatMap (fun x=>[f x])=l.map f:=by
 induction l with
 | nil => rfl
 | cons a r ih => rw [List.flatMap_cons, ih, List.map_cons]; rfl
theorem Zh {a b:LL} {k:Nat} (h:a.length+b.length≤4096) (hk:k≤10000):Z5 a b k:=by
 unfold Z5 Jp
 have:(a.length+b.length)*(k+1)≤4096*10001:=Nat.mul_le_mul h (by omega)
 omega
theorem s80 (l:List Id) (h:l.length≤64):g80 (Zl l)=some (Zl l):=by
 rw [Znk]
 exact ZC (Zh (by rw [JB];simp;omega) (by omega)) _
theorem s60 (l:List Id) (h:l.length≤64):g60 (Zl l)=some (Zl l):=by
 rw [Znj]
 refine Zlu (fun hn=>?_) ?_
 ·rw [if_pos rfl,hn]
 ·rw [if_neg Bool.false_ne_true]
  exact ZC (Zh (by rw [JB];simp;omega) (by omega)) _
theorem s51 (n:K3) (h:n.path.length≤64):g51 n.id.core n.id.op n.id.part (Zl n.path) n.cap.kind n.cap.base n.cap.bits n.cap.rights n.cap.width n.cap.level n.cap.device=some (Zgn n):=by
 rw [ZnF,s80 _ h];rfl
theorem s28 (n:K3) (h:n.path.length≤64):g28 n.id.core n.id.op n.id.part (Zl n.path) n.cap.kind n.cap.base n.cap.bits n.cap.rights n.cap.width n.cap.level n.cap.device=some (Zgn n):=by
 rw [Zm4,s60 _ h];rfl
structure ZkY (l:List YB):Prop where
 len:l.length≤70
 path:∀ s∈l,s.node.path.length≤20
end Go.Proofs.YtapbmpfhogkkaaaGreat
end

section
namespace Go.Proofs.YtapbmpfhogkkaaaGreat
open Go Go.AM
set_option linter.unusedSimpArgs false
set_option linter.unusedVariables false
set_option maxRecDepth 100000
theorem Zh9 {α:Type} (f:α→List AV) (g:α→α) (l:List α) (i o:Nat) (c:List AV) (h:∀ x,l[i]? = some x→setCells (f x) o c=f (g x)):Zp (l.map f) i o c=(l.modify i g).map f:=by
 unfold Zp
 refine List.ext_getElem? fun j=>?_
 rw [List.getElem?_modify,List.getElem?_map,List.getElem?_map,List.getElem?_modify]
 cases hj:l[j]? with
 | none => rfl
 | some x =>
  by_cases hij:i=j
  ·subst hij
   simp [h x hj]
  ·simp [hij]
def Zca (s:YB):Bool:=if (cop .neq s.op 0)=true then true else !((cop .eql s.lock.core 0)&&((cop .eql s.lock.op 0)&&((cop .eql s.lock.part 0)&&true)))
theorem s25 (s:YB):g25 s.node.id.core s.node.id.op s.node.id.part (Zl s.node.path) s.node.cap.kind s.node.cap.base s.node.cap.bits s.node.cap.rights s.node.cap.width s.node.cap.level s.node.cap.device s.op s.lock.core s.lock.op s.lock.part=some (Zca s):=by
 rw [ZmJ,Zca]
 split<;>rfl
end Go.Proofs.YtapbmpfhogkkaaaGreat
end

section
namespace Go.Proofs.YtapbmpfhogkkaaaGreat
open Go Go.AM
set_option linter.unusedSimpArgs false
set_option linter.unusedVariables false
set_option maxRecDepth 100000
theorem VA {γ:Type} {F:Nat→Int→Option γ} {n:Nat} (hit:Nat→γ) (p:Nat→Bool) (hn:n < 2^63)
  (step:∀ k i:Nat,i < n→F (k+1) (i:Int)=if p i=true then some (hit i) else F k ((i+1:Nat):Int))
  (last:∀ k:Nat,F (k+1) (n:Int)=some (hit n)) (m:Nat) (hm:m≤n) (h1:∀ j,j < m→p j=false) (h2:m < n→p m=true):F ZZ 0=some (hit m):=by
 have key:∀ (j i fuel:Nat),i+j=m→n-i < fuel→F fuel (i:Int)=some (hit m):=by
  intro j
  induction j with
  | zero =>
   intro i fuel h hf
   obtain ⟨q,rfl⟩:∃ q,fuel=q+1:=⟨fuel-1,by omega⟩
   have:i=m:=by omega
   subst this
   by_cases hi:i < n
   ·rw [step q i hi,if_pos (h2 hi)]
   ·have:i=n:=by omega
    subst this
    exact last q
  | succ j ih =>
   intro i fuel h hf
   obtain ⟨q,rfl⟩:∃ q,fuel=q+1:=⟨fuel-1,by omega⟩
   rw [step q i (by omega),if_neg (by rw [h1 i (by omega)];exact Bool.false_ne_true)]
   exact ih (i+1) q (by omega) (by omega)
 exact key m 0 ZZ (by omega) (by have:=ZcR hn;omega)
def YJ {α:Type} (q:α→Bool):List α→Nat
 | [] => 0
 | a :: r => match q a with | true => 0 | false => YJ q r + 1
theorem Vy {α:Type} (q:α→Bool):∀ (l:List α),YJ q l≤l.length
 | [] => Nat.le_refl _
 | a :: r => by
  unfold YJ
  have:=Vy q r
  split<;>simp only [List.length_cons]<;>omega
theorem VU {α:Type} (q:α→Bool):∀ (l:List α) (j:Nat) (hj:j < l.length),j < YJ q l→q l[j]=false
 | [], j, hj, _ => by simp at hj
 | a :: r, j, hj, h => by
  unfold YJ at h
  split at h
  ·omega
  ·rename_i ha
   cases j with
   | zero => exact ha
   | succ j => exact VU q r j (by simpa using hj) (by omega)
theorem ZaU {α:Type} (q:α→Bool):∀ (l:List α) (h:YJ q l < l.length),q l[YJ q l]=true
 | [], h => by simp at h
 | a :: r, h => by
  cases ha:q a with
  | true =>
   have e:YJ q (a::r)=0:=by unfold YJ;rw [ha]
   simp only [e]
   exact ha
  | false =>
   have e:YJ q (a::r)=YJ q r+1:=by rw [YJ];rw [ha]
   have h':YJ q r < r.length:=by rw [e] at h;simpa using h
   have:=ZaU q r h'
   simp only [e]
   exact this
def ZaC (n m:Nat):Int:=if m < n then (m:Int) else -1
theorem Zfe (n m:Nat):cop .geq (ZaC n m) 0=decide (m < n):=by
 unfold ZaC
 rw [Z6]
 split<;>simp only [CQ]<;>constructor<;>intro<;>first | omega | simp_all
theorem Vk {n m:Nat} (h:m < n):ZaC n m=(m:Int):=if_pos h
def before (r q:Req):Bool:=ZoQ r.id q.id
end Go.Proofs.YtapbmpfhogkkaaaGreat
end

section
namespace Go.Proofs.YtapbmpfhogkkaaaGreat
open Go Go.AM
set_option linter.unusedSimpArgs false
set_option linter.unusedVariables false
set_option maxRecDepth 100000
def YP (s:YB):Bool:=decide (s.node.id=zid)
theorem Zhg (s:YB):((cop .eql s.node.id.core 0)&&((cop .eql s.node.id.op 0)&&((cop .eql s.node.id.part 0)&&true)))=YP s:=by
 rw [Z6,Zk5]
 unfold YP
 rw [decide_eq_true_eq]
theorem s57 (s:YB):g57 s.node.id.core s.node.id.op s.node.id.part (Zl s.node.path) s.node.cap.kind s.node.cap.base s.node.cap.bits s.node.cap.rights s.node.cap.width s.node.cap.level s.node.cap.device s.op s.lock.core s.lock.op s.lock.part=some (YP s):=by rw [Zmv,Zhg]
end Go.Proofs.YtapbmpfhogkkaaaGreat
end

section
namespace Go.Proofs.YtapbmpfhogkkaaaGreat
open Go Go.AM
set_option linter.unusedSimpArgs false
set_option linter.unusedVariables false
set_option maxRecDepth 100000
end Go.Proofs.YtapbmpfhogkkaaaGreat
end

section
namespace Go.Proofs.YtapbmpfhogkkaaaGreat
open Go Go.AM
set_option linter.unusedSimpArgs false
set_option linter.unusedVariables false
set_option maxRecDepth 100000
def rep (k e:Int) (m:Msg):Msg:=⟨k,0,0,m.frm,0,m.region,0,m.op,e,false,Zdd,[],[],[],[],0,Zhf,Zec,Zjw⟩
theorem s6 (x n:Int) (h1:1≤n) (h2:n < 2^62):g6 x n=some (x % n):=by
 have e62:(2:Int)^62=4611686018427387904:=by decide
 have hm0:=Int.emod_nonneg x (show n≠0 by omega)
 have hm1:=Int.emod_lt_of_pos x (show 0 < n by omega)
 have ht:iop .rem .i64 x n=x.tmod n:=rfl
 rw [Zpo,if_neg (by simp only [CQ];omega),ZC (by omega),ht]
 have:=Int.tmod_eq_emod (a:=x) (b:=n)
 by_cases hd:0≤x∨n ∣ x
 ·rw [if_pos hd] at this
  rw [if_neg (by simp only [CQ];omega)]
  congr 1
  omega
 ·rw [if_neg hd] at this
  have habs:((n.natAbs:Nat):Int)=n:=by omega
  have hne:x % n≠0:=fun h=>hd (.inr (Int.dvd_of_emod_eq_zero h))
  rw [if_pos (by simp only [CQ];omega),J5 (by omega) (by omega)]
  congr 1
  omega
end Go.Proofs.YtapbmpfhogkkaaaGreat
end

section
namespace Go.Proofs.YtapbmpfhogkkaaaGreat
open Go Go.AM
set_option linter.unusedSimpArgs false
set_option linter.unusedVariables false
set_option maxRecDepth 100000
end Go.Proofs.YtapbmpfhogkkaaaGreat
end

section
namespace Go.Proofs.YtapbmpfhogkkaaaGreat
open Go Go.AM
set_option linter.unusedSimpArgs false
set_option linter.unusedVariables false
set_option maxRecDepth 100000
theorem s62 (a b:Int):g62 a b=some (Yr a b):=by
 rw [ZmY]
 simp only [s33,Option.bind_some]
 cases h:JN a b with
 | false => simp [Yr, h]
 | true =>
  obtain ⟨h1,h2,h3,h4,h5⟩:=V0 h
  have hw:IntKind.wrap .u64 b=b:=W4 (by omega) (by omega)
  simp only [Bool.not_true,Bool.false_eq_true,if_false,hw]
  rw [ZC (by omega),Zin h]
theorem s35 (a b c d:Int):g35 a b c d=some (Zks a b c d):=by
 rw [Zmq]
 simp only [s33,s62,Option.bind_some]
 repeat' split
 all_goals (refine congrArg some ?_;rw [Z6];simp only [Zks,ZG,ZN,ZO,ZL,ZF,ZQ,ZM,ZH,ZJ,ZI,ZK,ZP,Bool.not_eq_true,Bool.not_eq_false,Bool.not_eq_true',Bool.not_eq_false',Bool.and_eq_true,Bool.or_eq_true,decide_eq_true_eq,decide_eq_false_iff_not,Bool.false_eq_true,Bool.true_eq_false,Option.bind_some,Option.some.injEq,false_iff,true_iff,iff_false,iff_true] at *; grind)
theorem s63 (a b c d:Int):g63 a b c d=some (inB a b c d):=by
 rw [ZmH]
 simp only [s33,s62,Option.bind_some]
 repeat' split
 all_goals (refine congrArg some ?_;rw [Z6];simp only [inB,ZG,ZN,ZO,ZL,ZF,ZQ,ZM,ZH,ZJ,ZI,ZK,ZP,Bool.not_eq_true,Bool.not_eq_false,Bool.not_eq_true',Bool.not_eq_false',Bool.and_eq_true,Bool.or_eq_true,decide_eq_true_eq,decide_eq_false_iff_not,Bool.false_eq_true,Bool.true_eq_false,Option.bind_some,Option.some.injEq,false_iff,true_iff,iff_false,iff_true] at *; grind)
theorem s83 (k b s r w l:Int) (d:Bool) (m:Int):g83 k b s r w l d m=some (k,b,s,iop .and .i64 r m,w,l,d):=Zn5 ..
end Go.Proofs.YtapbmpfhogkkaaaGreat
end

section
namespace Go.Proofs.YtapbmpfhogkkaaaGreat
open Go Go.AM
set_option linter.unusedSimpArgs false
set_option linter.unusedVariables false
set_option maxRecDepth 100000
theorem l81 {b r w l k s:Int} {d fl:Bool} {lv wd bits sz off obj cnt:Int} (hb:0≤b) (hoff:0≤off) (hsz:0≤sz) (hc:cnt≤8) (hm:b+off+8*sz < 2^62):∀ (j i fuel:Nat),cnt=i+j→j < fuel→
  Ks fuel obj bits lv wd off cnt k b s r w l d fl sz (Jv obj (b+off) sz bits r (if fl=true then wd else 0) (if fl=true then lv else 0) d i) i=some (Jv obj (b+off) sz bits r (if fl=true then wd else 0) (if fl=true then lv else 0) d cnt.toNat,0):=by
 intro j
 have e62:(2:Int)^62=4611686018427387904:=by decide
 induction j with
 | zero =>
  intro i fuel h hf
  obtain ⟨f,rfl⟩:∃ f,fuel=f+1:=⟨fuel-1,by omega⟩
  rw [ZfA,if_neg (by simp only [ZG,ZN,ZO,ZL,ZF,ZQ,ZM,ZH,ZJ,ZI,ZK,ZP,Bool.not_eq_true,Bool.not_eq_false,Bool.not_eq_true',Bool.not_eq_false',Bool.and_eq_true,Bool.or_eq_true,decide_eq_true_eq,decide_eq_false_iff_not,Bool.false_eq_true,Bool.true_eq_false,Option.bind_some,Option.some.injEq,false_iff,true_iff,iff_false,iff_true];omega)]
  have:cnt.toNat=i:=by omega
  rw [this]
 | succ j ih =>
  intro i fuel h hf
  obtain ⟨f,rfl⟩:∃ f,fuel=f+1:=⟨fuel-1,by omega⟩
  have hsi:(i:Int)*sz≤8*sz:=Int.mul_le_mul_of_nonneg_right (by omega) hsz
  have hsi0:0≤(i:Int)*sz:=Int.mul_nonneg (by omega) hsz
  have a1:iop .add .i64 b off=b+off:=J5 (by omega) (by omega)
  have a2:iop .mul .i64 i sz=i*sz:=Zlb (by omega) (by omega)
  have a3:iop .add .i64 (b+off) (i*sz)=b+off+i*sz:=J5 (by omega) (by omega)
  have a4:iop .add .i64 i 1=((i+1:Nat):Int):=by rw [J5 (by omega) (by omega)];omega
  have:=ih (i+1) f (by omega) (by omega)
  rw [VZ] at this
  rw [ZfA,if_pos (by simp only [ZG,ZN,ZO,ZL,ZF,ZQ,ZM,ZH,ZJ,ZI,ZK,ZP,Bool.not_eq_true,Bool.not_eq_false,Bool.not_eq_true',Bool.not_eq_false',Bool.and_eq_true,Bool.or_eq_true,decide_eq_true_eq,decide_eq_false_iff_not,Bool.false_eq_true,Bool.true_eq_false,Option.bind_some,Option.some.injEq,false_iff,true_iff,iff_false,iff_true];omega)]
  cases fl
  ·simp only [Bool.false_eq_true,if_false] at this ⊢
   rw [ZC (Y8 (by rw [KL];simp;omega)),a1,a2,a3,a4]
   exact this
  ·simp only [if_true] at this ⊢
   rw [ZC (Y8 (by rw [KL];simp;omega)),a1,a2,a3,a4]
   exact this
set_option maxHeartbeats 4000000 in
theorem s81 (k b s r w l:Int) (d:Bool) (obj bits level width off cnt:Int):g81 k b s r w l d obj bits level width off cnt =
  some (YR ⟨k,b,s,r,w,l,d⟩ obj bits level width off cnt,JG ⟨k,b,s,r,w,l,d⟩ obj bits level width off cnt):=by
 rw [ZmM]
 simp only [s76,s98,s99,Option.bind_some]
 by_cases hh:JT ⟨k,b,s,r,w,l,d⟩=true∧k=1∧iop .and .i64 r 2≠0∧Y1 obj bits=true∧(obj=3→VN width level=true)∧1≤cnt∧cnt≤8∧0≤off
 ·obtain ⟨h1,rfl,h3,h4,h5,h6,h7,h8⟩:=hh
  obtain ⟨n1,n2,n3,n4,n5,n6,n7,n8,n9,n10,n11,n12,n13,n14,n15,n16⟩:=Zfh h1 h4 h6 h7 h8
  have q1:(Zi ((0:Int)≤bits):Option (List (List AV)×Int)→_)=fun x=>x:=Wq n7
  have q2:(Zi ((2:Int)^bits.toNat≠0):Option (List (List AV)×Int)→_)=fun x=>x:=Wq n6
  have hw1:IntKind.wrap .u64 bits=bits:=W4 n7 (by omega)
  have hw2:IntKind.wrap .u64 s=s:=W4 n8 (by simp only at n16;omega)
  have q3:(Zi ((0:Int)≤s):Option (List (List AV)×Int)→_)=fun x=>x:=Wq n8
  simp only at n3 n5
  have loop:∀ fl:Bool,off+cnt*2^bits.toNat≤2^s.toNat→Ks ZZ obj bits level width off cnt 1 b s r w l d fl (2^bits.toNat) [] 0=some (Jv obj (b+off) (2^bits.toNat) bits r (if fl=true then width else 0) (if fl=true then level else 0) d cnt.toNat,0):=by
   intro fl hle
   have:=l81 (fl:=fl) (k:=1) (s:=s) (r:=r) (w:=w) (l:=l) (d:=d) (lv:=level) (wd:=width) (bits:=bits) (obj:=obj) (cnt:=cnt) n9 h8 (Int.le_of_lt n11) h7 (show b+off+8*2^bits.toNat < 2^62 by
    have e62:(2:Int)^62=4611686018427387904:=by decide
    simp only at n10
    omega) cnt.toNat 0 ZZ (by omega) (Zb6 (by omega))
   exact this
  have n9':0≤b:=n9
  have n10':b+2^s.toNat≤1099511627776:=n10
  have n5':off≤2^s.toNat→iop .sub .i64 (2^s.toNat) off=2^s.toNat-off:=fun h=>ZdI (by omega) (by omega)
  have hR:JG ⟨1,b,s,r,w,l,d⟩ obj bits level width off cnt=if d=true∧obj≠1∧obj≠2 then 5 else if off % 2^bits.toNat≠0∨2^s.toNat-cnt*2^bits.toNat < off∨(obj=1∧s≤bits) then 6 else 0:=by
   rw [JG,if_neg (by simp [h1]),if_neg h3,if_neg (by
    rintro (h | ⟨h,h'⟩ | h | h | h)
    ·rw [h4] at h;cases h
    ·rw [h5 h] at h';cases h'
    ·omega
    ·omega
    ·omega)]
  have hk1:cop .neq (1:Int) 1=false:=rfl
  simp only [hw1,hw2,n1,n2,n3,n4,q1,q2,q3,h1,h4,hk1,Bool.not_true,Bool.false_eq_true,if_false]
  clear n1 n2 n3 n4 n5 q1 q2 q3
  by_cases e5:d=true∧obj≠1∧obj≠2
  ·rw [if_pos e5] at hR
   obtain ⟨hd,e1,e2⟩:=e5
   repeat' (with_reducible refine Zz (fun _=>?_) (fun _=>?_))
   all_goals first
    | exact Wn (by decide) hR
    | (exfalso; simp only [ZG, ZN, ZO, ZL, ZF, ZQ, ZM, ZH, ZJ, ZI, ZK, ZP, Bool.not_eq_true, Bool.not_eq_false, Bool.not_eq_true', Bool.not_eq_false', Bool.and_eq_true, Bool.or_eq_true, decide_eq_true_eq, decide_eq_false_iff_not, Bool.false_eq_true, Bool.true_eq_false, Option.bind_some, Option.some.injEq, false_iff, true_iff, iff_false, iff_true] at *; first | omega | grind)
  ·rw [if_neg e5] at hR
   by_cases e6:off % 2^bits.toNat≠0∨2^s.toNat-cnt*2^bits.toNat < off∨(obj=1∧s≤bits)
   ·rw [if_pos e6] at hR
    repeat' (with_reducible refine Zz (fun _=>?_) (fun _=>?_))
    all_goals first
     | exact Wn (by decide) hR
     | (exfalso; simp only [ZG, ZN, ZO, ZL, ZF, ZQ, ZM, ZH, ZJ, ZI, ZK, ZP, Bool.not_eq_true, Bool.not_eq_false, Bool.not_eq_true', Bool.not_eq_false', Bool.and_eq_true, Bool.or_eq_true, decide_eq_true_eq, decide_eq_false_iff_not, Bool.false_eq_true, Bool.true_eq_false, Option.bind_some, Option.some.injEq, false_iff, true_iff, iff_false, iff_true] at *; rw [n5' (by omega)] at *; first | omega | grind)
     | (exfalso; simp only [ZG, ZN, ZO, ZL, ZF, ZQ, ZM, ZH, ZJ, ZI, ZK, ZP, Bool.not_eq_true, Bool.not_eq_false, Bool.not_eq_true', Bool.not_eq_false', Bool.and_eq_true, Bool.or_eq_true, decide_eq_true_eq, decide_eq_false_iff_not, Bool.false_eq_true, Bool.true_eq_false, Option.bind_some, Option.some.injEq, false_iff, true_iff, iff_false, iff_true] at *; first | omega | grind)
   ·rw [if_neg e6] at hR
    have hL:∀ fl,Ks ZZ obj bits level width off cnt 1 b s r w l d fl (2^bits.toNat) [] 0=some (Jv obj (b+off) (2^bits.toNat) bits r (if fl=true then width else 0) (if fl=true then level else 0) d cnt.toNat,0):=fun fl=>loop fl (by omega)
    have n5:=n5' (by omega)
    simp only [hL,YR,hR,if_true,n5]
    have hfl:(cop .eql obj 3=true)=(obj=3):=by simp only [ZG,ZN,ZO,ZL,ZF,ZQ,ZM,ZH,ZJ,ZI,ZK,ZP,Bool.not_eq_true,Bool.not_eq_false,Bool.not_eq_true',Bool.not_eq_false',Bool.and_eq_true,Bool.or_eq_true,decide_eq_true_eq,decide_eq_false_iff_not,Bool.false_eq_true,Bool.true_eq_false,Option.bind_some,Option.some.injEq,false_iff,true_iff,iff_false,iff_true]
    simp only [hfl]
    repeat' (with_reducible refine Zz (fun _=>?_) (fun _=>?_))
    all_goals first
     | rfl
     | (exfalso; simp only [ZG, ZN, ZO, ZL, ZF, ZQ, ZM, ZH, ZJ, ZI, ZK, ZP, Bool.not_eq_true, Bool.not_eq_false, Bool.not_eq_true', Bool.not_eq_false', Bool.and_eq_true, Bool.or_eq_true, decide_eq_true_eq, decide_eq_false_iff_not, Bool.false_eq_true, Bool.true_eq_false, Option.bind_some, Option.some.injEq, false_iff, true_iff, iff_false, iff_true] at *; first | omega | grind)
 ·repeat' (with_reducible refine Zz (fun _=>?_) (fun _=>?_))
  all_goals first
   | exact Wn (by decide) (by simp only [ZG, ZN, ZO, ZL, ZF, ZQ, ZM, ZH, ZJ, ZI, ZK, ZP, Bool.not_eq_true, Bool.not_eq_false, Bool.not_eq_true', Bool.not_eq_false', Bool.and_eq_true, Bool.or_eq_true, decide_eq_true_eq, decide_eq_false_iff_not, Bool.false_eq_true, Bool.true_eq_false, Option.bind_some, Option.some.injEq, false_iff, true_iff, iff_false, iff_true] at *; simp only [JG]; grind)
   | (exfalso; simp only [ZG, ZN, ZO, ZL, ZF, ZQ, ZM, ZH, ZJ, ZI, ZK, ZP, Bool.not_eq_true, Bool.not_eq_false, Bool.not_eq_true', Bool.not_eq_false', Bool.and_eq_true, Bool.or_eq_true, decide_eq_true_eq, decide_eq_false_iff_not, Bool.false_eq_true, Bool.true_eq_false, Option.bind_some, Option.some.injEq, false_iff, true_iff, iff_false, iff_true] at *; grind)
end Go.Proofs.YtapbmpfhogkkaaaGreat
end

section
namespace Go.Proofs.YtapbmpfhogkkaaaGreat
open Go Go.AM
set_option linter.unusedSimpArgs false
set_option linter.unusedVariables false
set_option maxRecDepth 100000
def Ret {α:Type} (P:α→Prop) (o:Option α):Prop:=∃ r,o=some r∧P r
theorem Za {α:Type} {P:α→Prop} {a:α} (h:P a):Ret P (some a):=⟨a,rfl,h⟩
theorem Ze {α β:Type} {P:β→Prop} {Q:α→Prop} {o:Option α} {f:α→Option β} (h:Ret Q o) (k:∀ r,Q r→Ret P (f r)):Ret P (o.bind f):=by
 obtain ⟨r,rfl,hr⟩:=h
 exact k r hr
theorem Zb {α:Type} {P:α→Prop} {c:Prop} {_:Decidable c} {a b:Option α} (h1:c→Ret P a) (h2:¬ c→Ret P b):Ret P (if c then a else b):=by
 split
 ·exact h1 ‹_›
 ·exact h2 ‹_›
theorem Zc {α:Type} {P:α→Prop} {p:Prop} {_:Decidable p} {x:Option α} (h:p) (k:Ret P x):Ret P (Zi p x):=by
 rw [ZC h];exact k
theorem Zk {α:Type} {P:α→Prop} {a b:Option α} (h:a=b) (k:Ret P b):Ret P a:=h ▸ k
theorem Zf {α β:Type} {P:β→Prop} {o:Option α} {a:α} {f:α→Option β} (h:o=some a) (k:Ret P (f a)):Ret P (o.bind f):=by
 subst h;exact k
theorem VF {σ γ:Type} {P:γ→Prop} {F:Nat→σ→Int→Option γ} {n:Nat} (J:Nat→σ→Prop) (hn:n < 2^63)
  (step:∀ (k i:Nat) (s:σ),i < n→J i s→(∀ s',J (i+1) s'→Ret P (F k s' ((i+1:Nat):Int)))→Ret P (F (k+1) s (i:Int)))
  (last:∀ (k:Nat) (s:σ),J n s→Ret P (F (k+1) s (n:Int))) (s:σ) (h:J 0 s):Ret P (F ZZ s 0):=by
 have key:∀ (j i fuel:Nat) (s:σ),i+j=n→j < fuel→J i s→Ret P (F fuel s (i:Int)):=by
  intro j
  induction j with
  | zero =>
   intro i fuel s h hf hj
   obtain ⟨q,rfl⟩:∃ q,fuel=q+1:=⟨fuel-1,by omega⟩
   have:i=n:=by omega
   subst this
   exact last q s hj
  | succ j ih =>
   intro i fuel s h hf hj
   obtain ⟨q,rfl⟩:∃ q,fuel=q+1:=⟨fuel-1,by omega⟩
   exact step q i s (by omega) hj fun s' hs=>ih (i+1) q s' (by omega) (by omega) hs
 exact key n 0 ZZ s (by omega) (by have:=ZcR hn;omega) h
theorem place (x n:Int) (h1:1≤n) (h2:n < 2^62):Ret (fun r=>0≤r∧r < n) (g6 x n):=⟨_,s6 x n h1 h2,Int.emod_nonneg x (by omega),Int.emod_lt_of_pos x (by omega)⟩
theorem WF (l:List Int) (z:Int):Ret (fun _=>True) (g32 (Zd l) z):=by
 rw [ZmP]
 refine Zb (fun _=>Za trivial) fun h1=>Zb (fun _=>Za trivial) fun h2=>?_
 simp only [CQ,Z2] at h1 h2
 have e:z=((z.toNat:Nat):Int):=by omega
 have hl:z.toNat < l.length:=by omega
 have:=J0 (γ:=Int) hl (fun r=>some r)
 rw [← e] at this
 exact Zk this (Za trivial)
theorem JP {γ:Type} {P:γ→Prop} {l:List Int} {z:Int} {k:Int→Option γ} (h0:0≤z) (h:z.toNat < l.length) (hk:Ret P (k l[z.toNat])):Ret P (Zj (Zd l) z [.int .i64] k):=by
 have e:z=((z.toNat:Nat):Int):=by omega
 have:=J0 h k
 rw [← e] at this
 exact Zk this hk
def ZiO (c:Cap):List AV:=[I c.kind,I c.base,I c.bits,I c.rights,I c.width,I c.level,B c.device]
abbrev Zh6:List Sh:=[.int .i64,.int .i64,.int .i64,.int .i64,.int .i64,.int .i64,.bool]
def Zox (c:Cap):ShsT Zh6:=(c.kind,c.base,c.bits,c.rights,c.width,c.level,c.device)
theorem VG {γ:Type} {l:List Cap} {i:Nat} (h:i < l.length) (k:ShsT Zh6→Option γ):Zj (l.map ZiO) (i:Int) Zh6 k=k (Zox l[i]):=YQ (fun _=>rfl) h k
def atP {α:Type} (q:α→Bool) (p:List α) (i:Nat):Bool:=match p[i]? with | some x=>q x | none=>false
theorem Kr {α:Type} (q:α→Bool) {p:List α} {i:Nat} (h:i < p.length):atP q p i=q p[i]:=by unfold atP;rw [List.getElem?_eq_getElem h]
def idE (i:Id) (e:ZT):Bool:=decide (e.node.id=i)
def plE (c s:Int) (e:ZT):Bool:=decide (e.core=c)&&decide (e.slot=s)
theorem s64 (l:List ZT) (hn:l.length < 2^63) (j:Id):g64 (l.map Zm) j.core j.op j.part=some (ZaC l.length (YJ (idE j) l)):=by
 rw [ZnY]
 exact VA (F:=fun k z=>Zgl k (l.map Zm) j.core j.op j.part z) (n:=l.length) (fun m=>ZaC l.length m) (atP (idE j) l) hn
  (fun k i hi=>by
   show Zgl (k+1) _ _ _ _ _=_
   rw [Zfc,List.length_map,if_pos (WM hi)]
   refine (Zq hi _).trans ?_
   simp only [KC,d2,d4,d8,d16]
   rw [Wc hi hn,Kr _ hi,Vk hi,idE]
   refine Zz (fun h1=>?_) fun h1=>?_
   ·rw [if_pos (by rw [ZbP] at h1;rw [decide_eq_true_eq];exact h1)]
   ·rw [if_neg (by rw [ZbP] at h1;rw [decide_eq_true_eq];exact h1)])
  (fun k=>by
   show Zgl (k+1) _ _ _ _ _=_
   rw [Zfc,List.length_map,if_neg (WO (Nat.le_refl _)),ZaC,if_neg (Nat.lt_irrefl _)]) (YJ (idE j) l) (Vy _ l) (fun i hi=>by
    have hl:=Vy (idE j) l
    rw [Kr _ (by omega)];exact VU _ l i (by omega) hi) (fun h=>by rw [Kr _ h];exact ZaU _ l h)
theorem s67 (l:List ZT) (hn:l.length < 2^63) (c s:Int):g67 (l.map Zm) c s=some (ZaC l.length (YJ (plE c s) l)):=by
 rw [Zme]
 exact VA (F:=fun k z=>ZeP k (l.map Zm) c s z) (n:=l.length) (fun m=>ZaC l.length m) (atP (plE c s) l) hn
  (fun k i hi=>by
   show ZeP (k+1) _ _ _ _=_
   rw [ZfO,List.length_map,if_pos (WM hi)]
   refine (Zq hi _).trans ?_
   simp only [KC,d2,d4,d8,d16]
   rw [Wc hi hn,Kr _ hi,Vk hi,plE]
   refine Zz (fun h1=>?_) fun h1=>?_
   ·simp only [CQ] at h1
    refine (Zq hi _).trans ?_
    simp only [KC,d2,d4,d8,d16]
    refine Zz (fun h2=>?_) fun h2=>?_
    ·simp only [CQ] at h2
     rw [if_pos (by simp [h1,h2])]
    ·simp only [CQ] at h2
     rw [if_neg (by simp [h2])]
   ·simp only [CQ] at h1
    rw [if_neg (by simp [h1])])
  (fun k=>by
   show ZeP (k+1) _ _ _ _=_
   rw [ZfO,List.length_map,if_neg (WO (Nat.le_refl _)),ZaC,if_neg (Nat.lt_irrefl _)]) (YJ (plE c s) l) (Vy _ l) (fun i hi=>by
    have hl:=Vy (plE c s) l
    rw [Kr _ (by omega)];exact VU _ l i (by omega) hi) (fun h=>by rw [Kr _ h];exact ZaU _ l h)
structure ZiN (l:List ZT):Prop where
 len:l.length≤1000
 path:∀ e∈l,e.node.path.length≤20
theorem s22 (l:List ZT) (h:ZiN l):g22 (l.map Zm)=some (l.map Zm):=by
 rw [Zoh]
 have hn:l.length < 2^63:=by have:=h.len;omega
 refine (ZlA (F:=fun k acc i=>ZgS k (l.map Zm) acc i) l (fun r=>[Zm r]) hn (fun k i hi=>?_) (fun k acc i hi=>?_)).trans (by rw [ZfQ])
 ·show ZgS (k+1) _ _ _=_
  rw [Zfb,List.length_map,if_pos (WM hi)]
  refine (Zq hi _).trans ?_
  simp only [KC,d2,d4,d8,d16]
  refine (Zq hi _).trans ?_
  refine (Zq hi _).trans ?_
  have hp:=h.path l[i] (List.getElem_mem hi)
  simp only [KC,d2,d4,d8,d16]
  rw [s51 l[i].node (by omega),Option.bind_some]
  refine (ZC (Zh ?_ (by omega)) _).trans ?_
  ·rw [ZfQ]
   have:=h.len
   simp only [List.length_map,List.length_take,List.length_append,List.length_cons,List.length_nil]
   omega
  ·rw [Wc hi hn]
   rfl
 ·show ZgS (k+1) _ _ _=_
  rw [Zfb,List.length_map,if_neg (WO hi)]
def Zo4 (l:List ZT) (x:ZT) (r:List ZT):Prop:=∃ i,i≤l.length∧(∀ j (h:j < l.length),j < i→lte x l[j]=false)∧(∀ h:i < l.length,lte x l[i]=true)∧l.any (idE x.node.id)=false∧l.any (plE x.core x.slot)=false∧r=l.take i++[x]++l.drop i
theorem ZkA {α:Type} (q:α→Bool) (l:List α) (h:¬ cop .geq (ZaC l.length (YJ q l)) 0=true):l.any q=false:=by
 rw [Zfe,decide_eq_true_eq] at h
 rw [List.any_eq_false]
 intro x hx
 obtain ⟨i,hi,rfl⟩:=List.getElem_of_mem hx
 have:=VU q l i hi (by omega)
 simp [this]
theorem ZaD {l m:List ZT} (h:ZiN l) (hs:∀ e∈m,e∈l) (hl:m.length≤l.length):ZiN m:=⟨by have:=h.len;omega,fun e he=>h.path e (hs e he)⟩
theorem s66 (l:List ZT) (h:ZiN l) (x:ZT) (hx:x.node.path.length≤20):Ret (fun r=>r=(E0,false)∨∃ m,Zo4 l x m∧r=(m.map Zm,true)) (g66 (l.map Zm) x.core x.slot x.node.id.core x.node.id.op x.node.id.part (Zl x.node.path) x.node.cap.kind x.node.cap.base x.node.cap.bits x.node.cap.rights x.node.cap.width x.node.cap.level x.node.cap.device):=by
 have hn:l.length < 2^63:=by have:=h.len;omega
 rw [Zm8,s64 l hn x.node.id,Option.bind_some]
 refine Zb (fun _=>Za (.inl rfl)) fun h1=>?_
 rw [s67 l hn,Option.bind_some]
 refine Zb (fun _=>Za (.inl rfl)) fun h2=>?_
 have n1:=ZkA _ _ h1
 have n2:=ZkA _ _ h2
 have ins:∀ (i:Nat),i≤l.length→(∀ j (h:j < l.length),j < i→lte x l[j]=false)→(∀ h:i < l.length,lte x l[i]=true)→Ret (fun r=>r=(E0,false)∨∃ m,Zo4 l x m∧r=(m.map Zm,true)) (Zi ((0:Int)≤(i:Int))<|Zi ((i:Int)≤(List.length (l.map Zm):Int))<|
   (g22 (List.take (Int.toNat (i:Int)) (l.map Zm))).bind fun (r29:LL)=>(g51 x.node.id.core x.node.id.op x.node.id.part (Zl x.node.path) x.node.cap.kind x.node.cap.base x.node.cap.bits x.node.cap.rights x.node.cap.width x.node.cap.level x.node.cap.device).bind fun r30=>
   Zi (Z5 r29 (E0++[[I x.core,I x.slot,I r30.1,I r30.2.1,I r30.2.2.1,AV.slice false 3 r30.2.2.2.1,I r30.2.2.2.2.1,I r30.2.2.2.2.2.1,I r30.2.2.2.2.2.2.1,I r30.2.2.2.2.2.2.2.1,I r30.2.2.2.2.2.2.2.2.1,I r30.2.2.2.2.2.2.2.2.2.1,AV.val (.bool r30.2.2.2.2.2.2.2.2.2.2)]]) 120)<|
   Zi ((0:Int)≤(i:Int))<|Zi ((i:Int)≤(List.length (l.map Zm):Int))<|(g22 (List.drop (Int.toNat (i:Int)) (l.map Zm))).bind fun (r41:LL)=>
   Zi (Z5 (r29++(E0++[[I x.core,I x.slot,I r30.1,I r30.2.1,I r30.2.2.1,AV.slice false 3 r30.2.2.2.1,I r30.2.2.2.2.1,I r30.2.2.2.2.2.1,I r30.2.2.2.2.2.2.1,I r30.2.2.2.2.2.2.2.1,I r30.2.2.2.2.2.2.2.2.1,I r30.2.2.2.2.2.2.2.2.2.1,AV.val (.bool r30.2.2.2.2.2.2.2.2.2.2)]])) r41 120)<|
   some (((r29++(E0++[[I x.core,I x.slot,I r30.1,I r30.2.1,I r30.2.2.1,AV.slice false 3 r30.2.2.2.1,I r30.2.2.2.2.1,I r30.2.2.2.2.2.1,I r30.2.2.2.2.2.2.1,I r30.2.2.2.2.2.2.2.1,I r30.2.2.2.2.2.2.2.2.1,I r30.2.2.2.2.2.2.2.2.2.1,AV.val (.bool r30.2.2.2.2.2.2.2.2.2.2)]]))++r41),true)):=by
  intro i hi hlo hhi
  have hl:=h.len
  refine Zc (by omega) (Zc (by rw [List.length_map];omega) ?_)
  rw [Int.toNat_natCast,← List.map_take,← List.map_drop,s22 _ (ZaD h (fun e he=>List.mem_of_mem_take he) (by simp;omega)),Option.bind_some,s51 x.node (by omega),Option.bind_some]
  refine Zc (Zh (by simp;omega) (by omega)) (Zc (by omega) (Zc (by rw [List.length_map];omega) ?_))
  rw [s22 _ (ZaD h (fun e he=>List.mem_of_mem_drop he) (by simp)),Option.bind_some]
  refine Zc (Zh (by simp;omega) (by omega)) (Za (.inr ⟨_,⟨i,hi,hlo,hhi,n1,n2,rfl⟩,?_⟩))
  simp [Zm,Zgn]
 refine VF (F:=fun k (_:Unit) z=>Zgt k (l.map Zm) x.core x.slot x.node.id.core x.node.id.op x.node.id.part (Zl x.node.path) x.node.cap.kind x.node.cap.base x.node.cap.bits x.node.cap.rights x.node.cap.width x.node.cap.level x.node.cap.device z) (n:=l.length) (fun i _=>∀ j (h:j < l.length),j < i→lte x l[j]=false) hn (fun k i _ hi hJ ih=>?_) (fun k _ hJ=>?_) () (fun j _ h0=>absurd h0 (Nat.not_lt_zero _))
 ·show Ret _ (Zgt (k+1) _ _ _ _ _ _ _ _ _ _ _ _ _ _ _)
  rw [ZfF,List.length_map,if_pos (WM hi)]
  refine Zk (Zq hi _) ?_
  simp only [KC,d2,d4,d8,d16]
  rw [s95,Option.bind_some]
  refine Zb (fun hc=>?_) fun hc=>?_
  ·rw [Wc hi hn]
   refine ih () fun j h1 h2=>?_
   by_cases hji:j < i
   ·exact hJ j h1 hji
   ·have:j=i:=by omega
    subst this
    rw [Bool.not_eq_true'] at hc
    exact hc
  ·have:=ins i (by omega) hJ fun _=>by rw [Bool.not_eq_true',Bool.not_eq_false] at hc;exact hc
   rw [List.length_map] at this
   exact this
 ·show Ret _ (Zgt (k+1) _ _ _ _ _ _ _ _ _ _ _ _ _ _ _)
  rw [ZfF,List.length_map,if_neg (WO (Nat.le_refl _))]
  have:=ins l.length (Nat.le_refl _) hJ fun h=>absurd h (Nat.lt_irrefl _)
  rw [List.length_map] at this
  exact this
structure ZaS (s:K3) (i:Id) (c:Cap):Prop where
 src:Jt s=true
 id:Zdx i=true
 cap:JT c=true
 ne:i≠s.id
 fresh:s.path.contains i=false
 room:s.path.length < 8
def Yq (s:K3) (i:Id) (c:Cap):K3:=⟨i,s.path++[s.id],c⟩
end Go.Proofs.YtapbmpfhogkkaaaGreat
end

section
namespace Go.Proofs.YtapbmpfhogkkaaaGreat
open Go Go.AM
set_option linter.unusedSimpArgs false
set_option linter.unusedVariables false
set_option maxRecDepth 100000
theorem Zo3 {a b:Int} (h0:0≤b) (h1:b≤62) (h2:0≤a) (h3:a*2^b.toNat < 2^63):iop .shl .i64 a b=a*2^b.toNat:=by
 have hmin:min b.toNat IntKind.i64.bits=b.toNat:=by
  have:IntKind.i64.bits=64:=rfl
  omega
 simp only [iop,hmin]
 have hp:=Yv b.toNat
 have:0≤a*2^b.toNat:=Int.mul_nonneg h2 (by omega)
 rw [Wk (by omega) h3]
theorem l39 (rec0:List V→Option Bool) (l:List ZT) (hn:l.length < 2^63) (cs:List Cap) (m i:Nat) (hi:i < cs.length) (ih':Ret (fun _=>True) (rec0 [.l (l.map Zm),.l (cs.map ZiO),.i (ZaC l.length m),.i (iop .add .i64 (i:Int) 1)])) :
  Ret (fun _=>True) (ZaY rec0 ZZ (l.map Zm) (cs.map ZiO) (ZaC l.length m) (i:Int) 0):=by
 refine VF (P:=fun _=>True) (F:=fun k2 (_:Unit) z=>ZaY rec0 k2 (l.map Zm) (cs.map ZiO) (ZaC l.length m) (i:Int) z) (n:=l.length) (fun _ _=>True) hn (fun k2 t _ ht _ ih2=>?_) (fun k2 _ _=>?_) () trivial
 ·show Ret _ (ZaY _ (k2+1) _ _ _ _ _)
  rw [Zfk,List.length_map,if_pos (WM ht)]
  refine Zk (Zq ht _) ?_
  simp only [KC,d2,d4,d8,d16]
  have nxt:Ret (fun _=>True) (ZaY rec0 k2 (l.map Zm) (cs.map ZiO) (ZaC l.length m) (i:Int) (iop .add .i64 (t:Int) 1)):=by rw [Wc ht hn];exact ih2 () trivial
  refine Zb (fun h1=>?_) fun h1=>?_
  ·rw [Zfe,decide_eq_true_eq] at h1
   refine Zb (fun h2=>?_) fun h2=>?_
   ·rw [s65,Option.bind_some]
    refine Zk (congrArg (fun z=>Zj (l.map Zm) z _ _) (Vk h1)) ?_
    refine Zk (Zq h1 _) ?_
    simp only [KC,d2,d4,d8,d16]
    rw [s65,Option.bind_some,s63,Option.bind_some,Option.bind_some]
    refine Zk (VG hi _) ?_
    simp only [Zox]
    rw [s65,Option.bind_some,s35,Option.bind_some]
    exact Zb (fun _=>Zb (fun _=>Za trivial) fun _=>nxt) fun _=>nxt
   ·rw [s65,Option.bind_some]
    refine Zk (VG hi _) ?_
    simp only [Zox]
    rw [s65,Option.bind_some,s35,Option.bind_some]
    exact Zb (fun _=>Za trivial) fun _=>nxt
  ·rw [s65,Option.bind_some]
   refine Zk (VG hi _) ?_
   simp only [Zox]
   rw [s65,Option.bind_some,s35,Option.bind_some]
   exact Zb (fun _=>Za trivial) fun _=>nxt
 ·show Ret _ (ZaY _ (k2+1) _ _ _ _ _)
  rw [Zfk,List.length_map,if_neg (WO (Nat.le_refl _))]
  exact ih'
theorem s39 (l:List ZT) (hn:l.length < 2^63) (j:Id) (cs:List Cap) (hc:cs.length < 2^63):Ret (fun _=>True) (g39 (l.map Zm) j.core j.op j.part (cs.map ZiO)):=by
 rw [Zm5,s64 l hn j,Option.bind_some]
 generalize hm:YJ (idE j) l=m
 refine VF (F:=fun k (_:Unit) z=>Zil k (l.map Zm) (cs.map ZiO) (ZaC l.length m) z) (n:=cs.length) (fun _ _=>True) hc (fun k i _ hi _ ih=>?_) (fun k _ _=>?_) () trivial
 ·show Ret _ (Zil (k+1) _ _ _ _)
  rw [Zfj,List.length_map,if_pos (WM hi)]
  exact l39 _ l hn cs m i hi (by rw [Wc hi hc];exact ih () trivial)
 ·show Ret _ (Zil (k+1) _ _ _ _)
  rw [Zfj,List.length_map,if_neg (WO (Nat.le_refl _))]
  exact Za trivial
structure EOk (e:ZT):Prop where
 c0:0≤e.core
 c1:e.core < 4
 s0:0≤e.slot
 s1:e.slot < 16
 ic:e.node.id.core=e.core
 o1:1≤e.node.id.op
 o2:e.node.id.op≤40
 p0:0≤e.node.id.part
 p1:e.node.id.part < 3
 ok:Jt e.node=true
structure FOk (l:List ZT) (n:Nat):Prop where
 len:l.length≤n
 all:∀ e∈l,EOk e
 asc:l.Pairwise fun a b=>lte a b=true
theorem Jr {n:K3} (h:Jt n=true):Zdx n.id=true∧JT n.cap=true∧n.path.length≤8∧(List.range n.path.length).all (VI n)=true:=by
 simp only [Jt,Bool.and_eq_true,decide_eq_true_eq] at h
 exact ⟨h.1.1.1,h.1.1.2,h.1.2,h.2⟩
theorem FOk.few {l:List ZT} {n:Nat} (h:FOk l n) (hn:n≤100):ZiN l:=⟨by have:=h.len;omega,fun e he=>by have:=(Jr (h.all e he).ok).2.2.1;omega⟩
theorem Zlz (i:Id) (c:Cap) (hi:Zdx i=true) (hc:JT c=true):Jt ⟨i,[],c⟩=true:=by simp [Jt,hi,hc]
theorem Zi7 {s:K3} {i:Id} {c:Cap} (h:ZaS s i c):Jt (Yq s i c)=true:=by
 obtain ⟨k1,k2,k3,k4⟩:=Jr h.src
 have hr:=h.room
 simp only [Jt,Yq,Bool.and_eq_true,decide_eq_true_eq,h.id,h.cap,true_and,List.length_append,List.length_cons,List.length_nil]
 refine ⟨by omega,?_⟩
 rw [List.all_eq_true] at k4 ⊢
 intro j hj
 rw [List.mem_range] at hj
 by_cases hjl:j < s.path.length
 ·have:=k4 j (List.mem_range.2 hjl)
  simp only [VI,List.getElem?_eq_getElem hjl] at this
  simp only [VI,List.getElem?_append_left hjl,List.getElem?_eq_getElem hjl,List.take_append_of_le_length (Nat.le_of_lt hjl)]
  simp only [Bool.and_eq_true,decide_eq_true_eq] at this ⊢
  refine ⟨⟨this.1.1,fun he=>?_⟩,this.2⟩
  have hf:=h.fresh
  rw [← he] at hf
  simp at hf
 ·have hje:j=s.path.length:=by omega
  subst hje
  simp only [VI,List.getElem?_append_right (Nat.le_refl _),Nat.sub_self,List.getElem?_cons_zero,List.take_left]
  simp only [Bool.and_eq_true,decide_eq_true_eq]
  refine ⟨⟨k1,fun he=>h.ne he.symm⟩,?_⟩
  rw [Bool.not_eq_true',← Bool.not_eq_true,List.contains_iff_mem]
  intro hm
  obtain ⟨t,ht,hte⟩:=List.getElem_of_mem hm
  have:=k4 t (List.mem_range.2 ht)
  simp only [VI,List.getElem?_eq_getElem ht,hte] at this
  simp at this
end Go.Proofs.YtapbmpfhogkkaaaGreat
end

section
namespace Go.Proofs.YtapbmpfhogkkaaaGreat
open Go Go.AM
set_option linter.unusedSimpArgs false
set_option linter.unusedVariables false
set_option maxRecDepth 100000
structure SOk (l:List ZT) (s:List YB):Prop where
 len:s.length=12
 spot:∀ t (h:t < s.length),s[t].op=0∧s[t].lock=zid∧(s[t].node=YG∨∃ e∈l,e.slot=(t:Int)∧s[t].node=e.node)
theorem SOk.all {l:List ZT} {s:List YB} (h:SOk l s):∀ x∈s,x.op=0∧x.lock=zid∧(x.node=YG∨∃ e∈l,x.node=e.node):=by
 intro x hx
 obtain ⟨t,ht,rfl⟩:=List.getElem_of_mem hx
 obtain ⟨h1,h2,h3⟩:=h.spot t ht
 exact ⟨h1,h2,h3.imp id fun ⟨e,he,_,hn⟩=>⟨e,he,hn⟩⟩
theorem SOk.few {l:List ZT} {s:List YB} {n:Nat} (h:SOk l s) (hf:FOk l n):ZkY s:=by
 refine ⟨by have:=h.len;omega,fun x hx=>?_⟩
 rcases (h.all x hx).2.2 with e | ⟨e,he,hne⟩
 ·rw [e];simp [YG]
 ·have:=(Jr (hf.all e he).ok).2.2.1
  rw [hne];omega
end Go.Proofs.YtapbmpfhogkkaaaGreat
end

section
namespace Go.Proofs.YtapbmpfhogkkaaaGreat
open Go Go.AM
set_option linter.unusedSimpArgs false
set_option linter.unusedVariables false
set_option maxRecDepth 100000
theorem Zw {σ γ:Type} {P:γ→Prop} {F:Nat→σ→Int→Option γ} (n:Nat) (J:Nat→σ→Prop) (hn:n < 1000)
  (step:∀ (k i:Nat) (s:σ),i≤n→J i s→(i < n→∀ s',J (i+1) s'→Ret P (F k s' ((i+1:Nat):Int)))→Ret P (F (k+1) s (i:Int))) (s:σ) (h:J 0 s):Ret P (F ZZ s 0):=by
 refine VF (F:=F) (n:=n) J (by omega) (fun k i s hi hj ih=>step k i s (by omega) hj fun _=>ih) (fun k s hj=>step k n s (Nat.le_refl _) hj fun h=>absurd h (Nat.lt_irrefl _)) s h
theorem JU {i n:Nat} (h:i≤n) (hn:n < 1000):iop .add .i64 (i:Int) 1=((i+1:Nat):Int):=by
 rw [J5 (by omega) (by omega)];omega
structure Zp0 (i:Id):Prop where
 c0:0≤i.core
 c1:i.core < 4
 o0:1≤i.op
 o1:i.op≤20
 p:i.part=0
theorem Zp0.ok {i:Id} (h:Zp0 i):ZlR i=true:=by
 obtain ⟨h1,h2,h3,h4,h5⟩:=h
 simp only [ZlR,Zdx,Bool.and_eq_true,decide_eq_true_eq]
 omega
theorem ZgJ {γ:Type} {P:γ→Prop} {a b z:Int} {k:Int→Option γ} (h0:0≤z) (h:z < 2) (hk:∀ x,x=a∨x=b→Ret P (k x)):Ret P (Zj ((E0++[[I a]])++[[I b]]) z [.int .i64] k):=
 JP (l:=[a,b]) h0 (by simp;omega) (hk _ (by rcases (by omega:z=0∨z=1) with rfl | rfl<;>simp))
structure Zqh (f:List ZT) (ss:List YB):Prop where
 len:ss.length=12
 spot:∀ t (h:t < ss.length),(0≤ss[t].op∧ss[t].op≤20)∧((ss[t].node=YG∧ss[t].lock=zid)∨∃ e∈f,e.slot=(t:Int)∧ss[t].node=e.node∧(ss[t].lock=zid∨ZlR ss[t].lock=true))
structure StG (f:List ZT) (s:Zcn):Prop where
 slots:Zqh f s.slots
 ok:Zcs s=true
 pend:s.pending.length≤3
 psrc:∀ q∈s.pending,q.src.path.length≤20∧q.call.dest < 8
 pok:∀ q∈s.pending,Zn3 q=true
 marks:s.marks.length≤3
 answers:s.answers.length≤3
 entries:s.entries.length≤3
 epath:∀ e∈s.entries,e.node.path.length≤20
 commits:s.commits.length≤3
theorem StG.few {f:List ZT} {n:Nat} (hf:FOk f n) {s:Zcn} (h:StG f s):ZkY s.slots:=by
 refine ⟨by have:=h.slots.len;omega,fun x hx=>?_⟩
 obtain ⟨t,ht,rfl⟩:=List.getElem_of_mem hx
 rcases (h.slots.spot t ht).2 with ⟨e,_⟩ | ⟨e,he,_,e1,_⟩
 ·rw [e];simp [YG]
 ·rw [e1]
  have:=(Jr (hf.all e he).ok).2.2.1
  omega
end Go.Proofs.YtapbmpfhogkkaaaGreat
end

section
namespace Go.Proofs.YtapbmpfhogkkaaaGreat
open Go Go.AM
set_option linter.unusedSimpArgs false
set_option linter.unusedVariables false
set_option maxRecDepth 100000
structure VwG (v:Zl1):Prop where
 ok:ZhJ v=true
 members:v.members.length≤4
 owners:v.owners.length≤4
structure StS (s:Zcn):Prop where
 ok:Zcs s=true
 slots:s.slots.length≤12
 spath:∀ x∈s.slots,x.node.path.length≤20
 pend:s.pending.length≤3
 psrc:∀ q∈s.pending,q.src.path.length≤20
 marks:s.marks.length≤3
 answers:s.answers.length≤3
 entries:s.entries.length≤3
 epath:∀ e∈s.entries,e.node.path.length≤20
 commits:s.commits.length≤3
structure RpS (r:Zb4):Prop where
 core:Zap r.core=true
 view:VwG r.view
 state:StS r.state
 next:VwG r.next
 proposal:StS r.proposal
theorem RpS.ok {r:Zb4} (h:RpS r):Zns r=true:=by simp only [Zns,h.core,h.view.ok,h.state.ok,h.next.ok,h.proposal.ok,Bool.and_self]
end Go.Proofs.YtapbmpfhogkkaaaGreat
end

section
namespace Go.Proofs.YtapbmpfhogkkaaaGreat
open Go Go.AM
set_option linter.unusedSimpArgs false
set_option linter.unusedVariables false
set_option maxRecDepth 100000
theorem l58 {b r w l k s:Int} {d:Bool} {lv wd bits sz off obj cnt:Int} (hb:0≤b) (hoff:0≤off) (hsz:0≤sz) (hc:cnt≤8) (hm:b+off+8*sz < 2^62):∀ (j i fuel:Nat),cnt=i+j→j < fuel→
  J2 fuel obj bits lv wd off k b s r w l d sz (Jv obj (b+off) sz bits r wd lv d i) cnt i=some (Jv obj (b+off) sz bits r wd lv d cnt.toNat,0):=by
 intro j
 have e62:(2:Int)^62=4611686018427387904:=by decide
 induction j with
 | zero =>
  intro i fuel h hf
  obtain ⟨f,rfl⟩:∃ f,fuel=f+1:=⟨fuel-1,by omega⟩
  rw [ZeX,if_neg (by simp only [ZG,ZN,ZO,ZL,ZF,ZQ,ZM,ZH,ZJ,ZI,ZK,ZP,Bool.not_eq_true,Bool.not_eq_false,Bool.not_eq_true',Bool.not_eq_false',Bool.and_eq_true,Bool.or_eq_true,decide_eq_true_eq,decide_eq_false_iff_not,Bool.false_eq_true,Bool.true_eq_false,Option.bind_some,Option.some.injEq,false_iff,true_iff,iff_false,iff_true];omega)]
  have:cnt.toNat=i:=by omega
  rw [this]
 | succ j ih =>
  intro i fuel h hf
  obtain ⟨f,rfl⟩:∃ f,fuel=f+1:=⟨fuel-1,by omega⟩
  have hsi:(i:Int)*sz≤8*sz:=Int.mul_le_mul_of_nonneg_right (by omega) hsz
  have hsi0:0≤(i:Int)*sz:=Int.mul_nonneg (by omega) hsz
  have a1:iop .add .i64 b off=b+off:=J5 (by omega) (by omega)
  have a2:iop .mul .i64 i sz=i*sz:=Zlb (by omega) (by omega)
  have a3:iop .add .i64 (b+off) (i*sz)=b+off+i*sz:=J5 (by omega) (by omega)
  have a4:iop .add .i64 i 1=((i+1:Nat):Int):=by rw [J5 (by omega) (by omega)];omega
  rw [ZeX,if_pos (by simp only [ZG,ZN,ZO,ZL,ZF,ZQ,ZM,ZH,ZJ,ZI,ZK,ZP,Bool.not_eq_true,Bool.not_eq_false,Bool.not_eq_true',Bool.not_eq_false',Bool.and_eq_true,Bool.or_eq_true,decide_eq_true_eq,decide_eq_false_iff_not,Bool.false_eq_true,Bool.true_eq_false,Option.bind_some,Option.some.injEq,false_iff,true_iff,iff_false,iff_true];omega),ZC (Y8 (by rw [KL];simp;omega)),a1,a2,a3,a4]
  have:=ih (i+1) f (by omega) (by omega)
  rw [VZ] at this
  exact this
set_option maxHeartbeats 4000000 in
theorem s58 (k b s r w l:Int) (d:Bool) (obj bits level width off cnt:Int):g58 k b s r w l d obj bits level width off cnt =
  some (YR ⟨k,b,s,r,w,l,d⟩ obj bits level width off cnt,JG ⟨k,b,s,r,w,l,d⟩ obj bits level width off cnt):=by
 rw [Znh]
 simp only [s90,s91,s92,Option.bind_some]
 by_cases hh:JT ⟨k,b,s,r,w,l,d⟩=true∧k=1∧iop .and .i64 r 2≠0∧Y1 obj bits=true∧(obj=3→VN width level=true)∧1≤cnt∧cnt≤8∧0≤off
 ·obtain ⟨h1,rfl,h3,h4,h5,h6,h7,h8⟩:=hh
  obtain ⟨n1,n2,n3,n4,n5,n6,n7,n8,n9,n10,n11,n12,n13,n14,n15,n16⟩:=Zfh h1 h4 h6 h7 h8
  have q1:(Zi ((0:Int)≤bits):Option (List (List AV)×Int)→_)=fun x=>x:=Wq n7
  have q2:(Zi ((2:Int)^bits.toNat≠0):Option (List (List AV)×Int)→_)=fun x=>x:=Wq n6
  have q3:(Zi ((0:Int)≤s):Option (List (List AV)×Int)→_)=fun x=>x:=Wq n8
  simp only at n3 n5
  have loop:∀ lv wd,off+cnt*2^bits.toNat≤2^s.toNat→J2 ZZ obj bits lv wd off 1 b s r w l d (2^bits.toNat) [] cnt 0=some (Jv obj (b+off) (2^bits.toNat) bits r wd lv d cnt.toNat,0):=by
   intro lv wd hle
   have:=l58 (k:=1) (s:=s) (r:=r) (w:=w) (l:=l) (d:=d) (lv:=lv) (wd:=wd) (bits:=bits) (obj:=obj) (cnt:=cnt) n9 h8 (Int.le_of_lt n11) h7 (show b+off+8*2^bits.toNat < 2^62 by
    have e62:(2:Int)^62=4611686018427387904:=by decide
    simp only at n10
    omega) cnt.toNat 0 ZZ (by omega) (Zb6 (by omega))
   exact this
  have hR:JG ⟨1,b,s,r,w,l,d⟩ obj bits level width off cnt=if d=true∧obj≠1∧obj≠2 then 5 else if off % 2^bits.toNat≠0∨2^s.toNat-cnt*2^bits.toNat < off∨(obj=1∧s≤bits) then 6 else 0:=by
   rw [JG,if_neg (by simp [h1]),if_neg h3,if_neg (by
    rintro (h | ⟨h,h'⟩ | h | h | h)
    ·rw [h4] at h;cases h
    ·rw [h5 h] at h';cases h'
    ·omega
    ·omega
    ·omega)]
  have hk1:cop .neq (1:Int) 1=false:=rfl
  simp only [n1,n2,n3,n4,n5,q1,q2,q3,h1,h4,hk1,Bool.not_true,Bool.false_eq_true,if_false]
  clear n1 n2 n3 n4 n5 q1 q2 q3
  by_cases e5:d=true∧obj≠1∧obj≠2
  ·rw [if_pos e5] at hR
   obtain ⟨hd,e1,e2⟩:=e5
   repeat' (with_reducible refine Zz (fun _=>?_) (fun _=>?_))
   all_goals first
    | exact Wn (by decide) hR
    | (exfalso; simp only [ZG, ZN, ZO, ZL, ZF, ZQ, ZM, ZH, ZJ, ZI, ZK, ZP, Bool.not_eq_true, Bool.not_eq_false, Bool.not_eq_true', Bool.not_eq_false', Bool.and_eq_true, Bool.or_eq_true, decide_eq_true_eq, decide_eq_false_iff_not, Bool.false_eq_true, Bool.true_eq_false, Option.bind_some, Option.some.injEq, false_iff, true_iff, iff_false, iff_true] at *; first | omega | grind)
  ·rw [if_neg e5] at hR
   by_cases e6:off % 2^bits.toNat≠0∨2^s.toNat-cnt*2^bits.toNat < off∨(obj=1∧s≤bits)
   ·rw [if_pos e6] at hR
    repeat' (with_reducible refine Zz (fun _=>?_) (fun _=>?_))
    all_goals first
     | exact Wn (by decide) hR
     | (exfalso; simp only [ZG, ZN, ZO, ZL, ZF, ZQ, ZM, ZH, ZJ, ZI, ZK, ZP, Bool.not_eq_true, Bool.not_eq_false, Bool.not_eq_true', Bool.not_eq_false', Bool.and_eq_true, Bool.or_eq_true, decide_eq_true_eq, decide_eq_false_iff_not, Bool.false_eq_true, Bool.true_eq_false, Option.bind_some, Option.some.injEq, false_iff, true_iff, iff_false, iff_true] at *; first | omega | grind)
   ·rw [if_neg e6] at hR
    have hL:∀ lv wd,J2 ZZ obj bits lv wd off 1 b s r w l d (2^bits.toNat) [] cnt 0=some (Jv obj (b+off) (2^bits.toNat) bits r wd lv d cnt.toNat,0):=fun lv wd=>loop lv wd (by omega)
    simp only [hL,YR,hR,if_true]
    repeat' (with_reducible refine Zz (fun _=>?_) (fun _=>?_))
    all_goals first
     | (simp only [ZG, ZN, ZO, ZL, ZF, ZQ, ZM, ZH, ZJ, ZI, ZK, ZP, Bool.not_eq_true, Bool.not_eq_false, Bool.not_eq_true', Bool.not_eq_false', Bool.and_eq_true, Bool.or_eq_true, decide_eq_true_eq, decide_eq_false_iff_not, Bool.false_eq_true, Bool.true_eq_false, Option.bind_some, Option.some.injEq, false_iff, true_iff, iff_false, iff_true] at *; rw [if_pos (by omega), if_pos (by omega)]; done)
     | (simp only [ZG, ZN, ZO, ZL, ZF, ZQ, ZM, ZH, ZJ, ZI, ZK, ZP, Bool.not_eq_true, Bool.not_eq_false, Bool.not_eq_true', Bool.not_eq_false', Bool.and_eq_true, Bool.or_eq_true, decide_eq_true_eq, decide_eq_false_iff_not, Bool.false_eq_true, Bool.true_eq_false, Option.bind_some, Option.some.injEq, false_iff, true_iff, iff_false, iff_true] at *; rw [if_neg (by omega), if_neg (by omega)]; done)
     | (exfalso; simp only [ZG, ZN, ZO, ZL, ZF, ZQ, ZM, ZH, ZJ, ZI, ZK, ZP, Bool.not_eq_true, Bool.not_eq_false, Bool.not_eq_true', Bool.not_eq_false', Bool.and_eq_true, Bool.or_eq_true, decide_eq_true_eq, decide_eq_false_iff_not, Bool.false_eq_true, Bool.true_eq_false, Option.bind_some, Option.some.injEq, false_iff, true_iff, iff_false, iff_true] at *; first | omega | grind)
 ·repeat' (with_reducible refine Zz (fun _=>?_) (fun _=>?_))
  all_goals first
   | exact Wn (by decide) (by simp only [ZG, ZN, ZO, ZL, ZF, ZQ, ZM, ZH, ZJ, ZI, ZK, ZP, Bool.not_eq_true, Bool.not_eq_false, Bool.not_eq_true', Bool.not_eq_false', Bool.and_eq_true, Bool.or_eq_true, decide_eq_true_eq, decide_eq_false_iff_not, Bool.false_eq_true, Bool.true_eq_false, Option.bind_some, Option.some.injEq, false_iff, true_iff, iff_false, iff_true] at *; simp only [JG]; grind)
   | (exfalso; simp only [ZG, ZN, ZO, ZL, ZF, ZQ, ZM, ZH, ZJ, ZI, ZK, ZP, Bool.not_eq_true, Bool.not_eq_false, Bool.not_eq_true', Bool.not_eq_false', Bool.and_eq_true, Bool.or_eq_true, decide_eq_true_eq, decide_eq_false_iff_not, Bool.false_eq_true, Bool.true_eq_false, Option.bind_some, Option.some.injEq, false_iff, true_iff, iff_false, iff_true] at *; grind)
end Go.Proofs.YtapbmpfhogkkaaaGreat
end

section
namespace Go.Proofs.YtapbmpfhogkkaaaGreat
open Go Go.AM
set_option linter.unusedSimpArgs false
set_option linter.unusedVariables false
set_option maxRecDepth 100000
structure Reg where
 base:Int
 bits:Int
 dev:Bool
def JO (r:Reg):List AV:=[I r.base,I r.bits,B r.dev]
theorem Y4 {γ:Type} {l:List Reg} {i:Nat} (h:i < l.length) (k:(Int×Int×Bool)→Option γ):Zj (l.map JO) (i:Int) [.int .i64,.int .i64,.bool] k=k (l[i].base,l[i].bits,l[i].dev):=
 YQ (f:=JO) (sh:=[.int .i64,.int .i64,.bool]) (v:=fun r=>(r.base,r.bits,r.dev)) (fun _=>rfl) h k
theorem s94 (a b:Int):g94 a b=some (Yr a b):=by
 rw [ZnX]
 simp only [s55,Option.bind_some]
 cases h:JN a b with
 | false => simp [Yr, h]
 | true =>
  obtain ⟨h1,h2,h3,h4,h5⟩:=V0 h
  simp only [Bool.not_true,Bool.false_eq_true,if_false]
  rw [ZC (by omega),Zin h]
theorem s61 (a b c d:Int):g61 a b c d=some (inB a b c d):=by
 rw [Zmf]
 simp only [s55,s94,Option.bind_some]
 repeat' split
 all_goals (refine congrArg some ?_;rw [Z6];simp only [inB,CQ] at *; grind)
def Zba (b n:Int) (r:Reg):Bool:=inB r.base r.bits b n
def JS (rs:List Reg) (b n:Int):Int:=ZaC rs.length (YJ (Zba b n) rs)
theorem s34 (a b:Int) (d:Bool):g34 a b d=some (a,b):=ZmV ..
theorem s37 (rs:List Reg) (hn:rs.length < 2^63) (b n:Int):g37 (rs.map JO) b n=some (JS rs b n):=by
 rw [Zom]
 exact VA (F:=fun k z=>ZgL k (rs.map JO) b n z) (n:=rs.length) (fun m=>ZaC rs.length m) (atP (Zba b n) rs) hn
  (fun k i hi=>by
   show ZgL (k+1) _ _ _ _=_
   rw [Ze0,List.length_map,if_pos (WM hi)]
   refine (Y4 hi _).trans ?_
   rw [s34,Option.bind_some,s63,Option.bind_some,Wc hi hn,Kr _ hi,Vk hi]
   rfl)
  (fun k=>by show ZgL (k+1) _ _ _ _=_;rw [Ze0,List.length_map,if_neg (WO (Nat.le_refl _)),ZaC,if_neg (Nat.lt_irrefl _)])
  (YJ (Zba b n) rs) (Vy _ _) (fun j hj=>by have:=Vy (Zba b n) rs;rw [Kr _ (by omega)];exact VU _ _ j (by omega) hj) (fun h=>by rw [Kr _ h];exact ZaU _ _ h)
theorem s30 (rs:List Reg) (hn:rs.length < 2^63) (b n:Int):g30 (rs.map JO) b n=some (if 0≤JS rs b n then (JS rs b n,true) else (0,false)):=by
 rw [Zoc,List.length_map]
 refine (VA (F:=fun k z=>Zge k b n (rs.map JO) (rs.length:Int) z) (n:=rs.length) (fun m=>if m < rs.length then ((m:Int),true) else (0,false)) (atP (Zba b n) rs) hn
  (fun k i hi=>by
   show Zge (k+1) _ _ _ _ _=_
   rw [ZeS,if_pos (WM hi)]
   refine (Y4 hi _).trans ?_
   rw [s61,Option.bind_some,Wc hi hn,Kr _ hi,if_pos hi]
   rfl)
  (fun k=>by show Zge (k+1) _ _ _ _ _=_;rw [ZeS,if_neg (WO (Nat.le_refl _)),if_neg (Nat.lt_irrefl _)])
  (YJ (Zba b n) rs) (Vy _ _) (fun j hj=>by have:=Vy (Zba b n) rs;rw [Kr _ (by omega)];exact VU _ _ j (by omega) hj) (fun h=>by rw [Kr _ h];exact ZaU _ _ h)).trans ?_
 unfold JS ZaC
 by_cases h:YJ (Zba b n) rs < rs.length
 ·rw [if_pos h,if_pos h,if_pos (by omega)]
 ·rw [if_neg h,if_neg h,if_neg (by omega)]
def Zl8 (l:List YB) (d c:Int):List YB:=(l.drop d.toNat).take c.toNat
def Zeu (l:List YB) (d c:Int):Bool:=(Zl8 l d c).any fun s=>!YP s
theorem s89 (s:YB):g89 s.node.id.core s.node.id.op s.node.id.part (Zl s.node.path) s.node.cap.kind s.node.cap.base s.node.cap.bits s.node.cap.rights s.node.cap.width s.node.cap.level s.node.cap.device s.op s.lock.core s.lock.op s.lock.part=some (!YP s):=by
 rw [Zmn,s57,Option.bind_some]
theorem Zoi (l:List YB) (hl:l.length < 2^63):Ziv (l.map YY)=some (l.any fun s=>!YP s):=by
 have h:∃ r,Zel (l.map YY)=some r∧cop .geq r 0=(List.range' 0 l.length).any (fun i=>!atB YP l i):=by
  rw [Zf2,List.length_map]
  refine ZfL (F:=fun k z=>Y0 k (l.map YY) (l.length:Int) z) (fun i=>!atB YP l i) hl (fun k i hi=>?_) (fun k i hi=>?_)
  ·show Y0 (k+1) _ _ _=_
   rw [Wz,if_pos (WM hi)]
   refine (Zbw hi _).trans ?_
   refine (congrArg (fun x=>Option.bind x _) (s89 l[i])).trans ?_
   rw [Option.bind_some,Wc hi hl,Zbz _ hi]
  ·show Y0 (k+1) _ _ _=_
   rw [Wz,if_neg (WO hi)]
 obtain ⟨r,h1,h2⟩:=h
 rw [Zip,h1,Option.bind_some,h2,ZkK,List.any_eq_not_all_not]
 simp
theorem s56 (l:List YB) (hl:l.length < 2^62) (d c:Int) (hd:0≤d) (hc:0≤c) (h:d+c≤l.length):g56 (l.map YY) d c=some (Zeu l d c):=by
 have e:iop .add .i64 d c=d+c:=J5 (by omega) (by omega)
 rw [ZmO,e,ZC hd,ZC (by omega),ZC (by rw [List.length_map];omega)]
 have e2:List.drop d.toNat (List.take (d+c).toNat (l.map YY))=(Zl8 l d c).map YY:=by
  unfold Zl8
  rw [← List.map_take,← List.map_drop,List.drop_take]
  congr 2;omega
 rw [e2,Zoi _ (by unfold Zl8;rw [List.length_take];omega),Option.bind_some]
 rfl
def wfB (core n:Int) (c:Call):Bool:=decide (
 (c.kind=1∧(0≤c.dest∧c.dest < n)∧6≤c.bits∧c.bits≤40)∨
 (c.kind=2∧(0≤c.slot∧c.slot < n)∧(1≤c.count∧c.count≤8)∧0≤c.dest∧c.dest≤n-c.count)∨
 (c.kind=3∧(0≤c.slot∧c.slot < n)∧(0≤c.dest∧c.dest < n)∧0≤c.mask∧c.mask≤7)∨
 (c.kind=4∧(0≤c.slot∧c.slot < n)∧(0≤c.dest∧c.dest < n)∧(0≤c.mask∧c.mask≤7)∧(0≤c.core∧c.core < 32)∧c.core≠core)∨
 ((c.kind=5∨c.kind=6)∧0≤c.slot∧c.slot < n))
theorem s52 (x n:Int):g52 x n=some (decide (0≤x∧x < n),n):=by
 rw [Zoe]
 refine Zz (fun h=>?_) (fun h=>?_)
 all_goals (refine congrArg (fun b=>some (b,n)) ?_;rw [Z6];simp only [CQ] at *; omega)
theorem Zlk (n q:Int) (h0:0≤n) (h1:n < 2^62):∃ t,iop .sub .i64 n q=t∧(1≤q→q≤8→t=n-q):=⟨_,rfl,fun h2 h3=>ZdI (by omega) (by omega)⟩
set_option maxHeartbeats 4000000 in
theorem s23 (core n:Int) (c:Call) (h0:0≤n) (h1:n < 2^62):g23 core n c.kind c.slot c.dest c.core c.mask c.object c.bits c.level c.offset c.count c.index c.addr=some (wfB core n c):=by
 obtain ⟨t,ht,hs⟩:=Zlk n c.count h0 h1
 rw [ZmS]
 simp only [s52,Option.bind_some,ht]
 repeat' (with_reducible refine Zz (fun _=>?_) (fun _=>?_))
 all_goals (refine congrArg some ?_;rw [Z6];simp only [wfB,CQ] at *; omega)
def Asc (l:List Int):Prop:=l.Pairwise (· < ·)
theorem ZkN:∀ {l m:List Int},Asc l→Asc m→(∀ x,x∈l↔x∈m)→l=m
 | [], [], _, _, _ => rfl
 | [], y :: m, _, _, h => absurd ((h y).2 (by simp)) (by simp)
 | x :: l, [], _, _, h => absurd ((h x).1 (by simp)) (by simp)
 | x :: l, y :: m, hl, hm, h => by
  obtain ⟨h1,h2⟩:=List.pairwise_cons.1 hl
  obtain ⟨k1,k2⟩:=List.pairwise_cons.1 hm
  have hxy:x=y:=by
   have a:=(h x).1 (by simp)
   have b:=(h y).2 (by simp)
   rcases List.mem_cons.1 a with a | a
   ·exact a
   ·rcases List.mem_cons.1 b with b | b
    ·exact b.symm
    ·have:=h1 y b;have:=k1 x a;omega
  subst hxy
  refine congrArg _ (ZkN h2 k2 fun z=>?_)
  constructor
  ·intro hz
   have:=h1 z hz
   rcases List.mem_cons.1 ((h z).1 (List.mem_cons_of_mem _ hz)) with e | e
   ·omega
   ·exact e
  ·intro hz
   have:=k1 z hz
   rcases List.mem_cons.1 ((h z).2 (List.mem_cons_of_mem _ hz)) with e | e
   ·omega
   ·exact e
theorem ZiX {l:List Int} (h:l.Pairwise (·≤·)):Asc (Lib.compact l)∧∀ x,x∈Lib.compact l↔x∈l:=by
 have get:∀ j,j < l.length→l.toArray[j]! = l[j]!:=fun j hj=>by simp
 constructor
 ·unfold Asc Lib.compact Lib.compactUpTo
  rw [List.pairwise_map]
  refine List.Pairwise.imp_of_mem ?_ ((List.pairwise_lt_range).filter _)
  intro a b ha hb hab
  obtain ⟨ha1,ha2⟩:=List.mem_filter.1 ha
  obtain ⟨hb1,hb2⟩:=List.mem_filter.1 hb
  rw [List.mem_range] at ha1 hb1
  have hk:=of_decide_eq_true hb2
  have hne:l.toArray[b]!≠l.toArray[b-1]!:=hk.resolve_left (by omega)
  have e1:l.toArray[b]! = l[b]:=by simp [hb1]
  have e2:l.toArray[b-1]! = l[b-1]:=by simp [show b-1 < l.length by omega]
  have e3:l.toArray[a]! = l[a]:=by simp [ha1]
  rw [e1,e2] at hne
  rw [e1,e3]
  have p:=List.pairwise_iff_getElem.1 h
  have q1:=p (b-1) b (by omega) hb1 (by omega)
  by_cases hab2:a=b-1
  ·subst hab2;omega
  ·have q2:=p a (b-1) ha1 (by omega) (by omega)
   omega
 ·intro x
  unfold Lib.compact Lib.compactUpTo
  rw [List.mem_map]
  constructor
  ·rintro ⟨j,hj,rfl⟩
   have hj:=List.mem_range.1 (List.mem_filter.1 hj).1
   have:l.toArray[j]! = l[j]:=by simp [hj]
   rw [this]
   exact List.getElem_mem hj
  ·intro hx
   have hlt:YJ (fun y=>decide (y=x)) l < l.length:=by
    obtain ⟨i,hi,hix⟩:=List.getElem_of_mem hx
    by_cases hc:YJ (fun y=>decide (y=x)) l < l.length
    ·exact hc
    ·have:=VU (fun y=>decide (y=x)) l i hi (by omega)
     rw [hix] at this
     simp at this
   have hq:=of_decide_eq_true (ZaU (fun y=>decide (y=x)) l hlt)
   refine ⟨YJ (fun y=>decide (y=x)) l,List.mem_filter.2 ⟨List.mem_range.2 hlt,?_⟩,by simp [hlt,hq]⟩
   unfold Lib.keeps
   rw [decide_eq_true_eq]
   by_cases h0:YJ (fun y=>decide (y=x)) l=0
   ·exact .inl h0
   ·right
    have:=VU (fun y=>decide (y=x)) l (YJ (fun y=>decide (y=x)) l-1) (by omega) (by omega)
    have e1:l.toArray[YJ (fun y=>decide (y=x)) l]! = l[YJ (fun y=>decide (y=x)) l]:=by simp [hlt]
    have e2:l.toArray[YJ (fun y=>decide (y=x)) l-1]! = l[YJ (fun y=>decide (y=x)) l-1]:=by simp [show YJ (fun y=>decide (y=x)) l-1 < l.length by omega]
    rw [e1,e2,hq]
    intro e
    rw [← e] at this
    simp at this
theorem Zg2 (k s d c:Int):Asc (Kn k s d c)∧∀ x,x∈Kn k s d c↔x∈Yl k s d c:=by
 have hs:((Yl k s d c).mergeSort fun x y=>decide (x≤y)).Pairwise (·≤·):=by
  have:=List.pairwise_mergeSort (le:=fun x y:Int=>decide (x≤y)) (fun a b c h1 h2=>by simp only [decide_eq_true_eq] at *; omega) (fun a b=>by simp only [Bool.or_eq_true,decide_eq_true_eq];omega) (Yl k s d c)
  exact this.imp fun h=>by simpa using h
 obtain ⟨h1,h2⟩:=ZiX hs
 refine ⟨h1,fun x=>?_⟩
 rw [Kn,h2 x]
 exact (List.mergeSort_perm _ _).mem_iff
theorem Zda {core n:Int} {c:Call} (hn:n < 2^62) (h:wfB core n c=true):∀ x∈Kn c.kind c.slot c.dest c.count,0≤x∧x < n:=by
 have hw:=of_decide_eq_true h
 intro x hx
 have hx:=((Zg2 c.kind c.slot c.dest c.count).2 x).1 hx
 unfold Yl at hx
 split at hx
 ·simp at hx;omega
 ·split at hx
  ·rcases List.mem_cons.1 hx with a | a
   ·omega
   ·obtain ⟨i,hi,rfl⟩:=List.mem_map.1 a
    have hi:=List.mem_range.1 hi
    have e:iop .add .i64 c.dest (i:Int)=c.dest+(i:Int):=J5 (by omega) (by omega)
    rw [e];omega
  ·split at hx
   ·simp at hx;omega
   ·simp at hx;omega
end Go.Proofs.YtapbmpfhogkkaaaGreat
end

section
namespace Go.Proofs.YtapbmpfhogkkaaaGreat
open Go Go.AM
set_option linter.unusedSimpArgs false
set_option linter.unusedVariables false
set_option maxRecDepth 100000
def ZoY (r:Req) (l:List Int) (e:Int):Int×Int×Int×Int×Int×Int×Int×Int×Int×Int×Int×Int×Int×Int×Int×Int×Int×Int×Int×Int×LL×Int×Int×Int×Int×Int×Int×Bool×LL×Int:=(r.id.core,r.id.op,r.id.part,r.call.kind,r.call.slot,r.call.dest,r.call.core,r.call.mask,r.call.object,r.call.bits,r.call.level,r.call.offset,r.call.count,r.call.index,r.call.addr,r.region,r.width,r.src.id.core,r.src.id.op,r.src.id.part,Zl r.src.path,r.src.cap.kind,r.src.cap.base,r.src.cap.bits,r.src.cap.rights,r.src.cap.width,r.src.cap.level,r.src.cap.device,Zd l,e)
def ZkE:YB:=⟨YG,0,⟨0,0,0⟩⟩
def getS (ss:List YB) (i:Int):YB:=ss[i.toNat]?.getD ZkE
theorem VV {γ:Type} {l:List YB} {i:Int} (h0:0≤i) (h:i < l.length) (k:ShsT ZdN→Option γ):Zj (l.map YY) i ZdN k=k (Zlc (getS l i)):=by
 obtain ⟨j,rfl⟩:∃ j:Nat,i=j:=⟨i.toNat,by omega⟩
 have hj:j < l.length:=by omega
 refine (Zbw hj k).trans ?_
 simp [getS,hj]
theorem Zi5 {l:List YB} {i:Int} (h0:0≤i) (h:i < l.length):getS l i∈l:=by
 have hj:i.toNat < l.length:=by omega
 unfold getS
 rw [List.getElem?_eq_getElem hj]
 exact List.getElem_mem hj
def Vb (ss:List YB) (rs:List Reg) (c:Call):Int:=
 if JN c.offset c.bits=false then 6 else if JS rs c.offset c.bits < 0 then 11 else if Zeu ss c.dest 1=true then 3 else 0
def ZnZ (width:Int) (ss:List YB) (ms:List Int) (n:K3) (c:Call):Int:=
 if c.kind=2 then (if JG n.cap c.object c.bits c.level width c.offset c.count≠0 then JG n.cap c.object c.bits c.level width c.offset c.count else if Zeu ss c.dest c.count=true then 3 else if 8≤n.path.length then 9 else 0)
 else if c.kind=3 then (if Zeu ss c.dest 1=true then 3 else if 8≤n.path.length then 9 else 0)
 else if c.kind=4 then (if n.cap.kind=3∨n.cap.kind=5∨n.cap.kind=6 then 5 else if iop .and .i64 n.cap.rights 4=0 then 8 else if 8≤n.path.length then 9 else if ms.any (fun x=>decide (c.core=x))=false then 10 else 0)
 else 0
def ZkF (width:Int) (ss:List YB) (ms:List Int) (s:YB) (c:Call):Int:=if YP s=true then 2 else ZnZ width ss ms s.node c
theorem s26 (ss:List YB) (rs:List Reg) (c:Call) (hs:ss.length < 2^62) (hr:rs.length < 2^63) (h0:0≤c.dest) (h1:c.dest < ss.length):g26 (ss.map YY) (rs.map JO) c.kind c.slot c.dest c.core c.mask c.object c.bits c.level c.offset c.count c.index c.addr=some (Vb ss rs c):=by
 rw [Znw]
 simp only [s55,s30 rs hr,s56 ss hs c.dest 1 h0 (by omega) (by omega),Option.bind_some]
 unfold Vb
 cases JN c.offset c.bits with
 | false => rfl
 | true =>
  by_cases h:0≤JS rs c.offset c.bits
  ·rw [if_pos h]
   simp only [Bool.not_true,Bool.false_eq_true,if_false,Bool.true_eq_false,show ¬ JS rs c.offset c.bits < 0 by omega]
   split<;>rfl
  ·rw [if_neg h]
   simp only [Bool.not_true,Bool.not_false,Bool.false_eq_true,if_false,if_true,Bool.true_eq_false,show JS rs c.offset c.bits < 0 by omega]
theorem s27 (core width:Int) (ss:List YB) (ms:List Int) (c:Call) (hs:ss.length < 2^62) (hm:ms.length < 2^63) (hw:wfB core ss.length c=true) (hk:c.kind≠1) (hp:(getS ss c.slot).node.path.length < 2^62) :
  g27 width (ss.map YY) (Zd ms) c.kind c.slot c.dest c.core c.mask c.object c.bits c.level c.offset c.count c.index c.addr=some (ZkF width ss ms (getS ss c.slot) c):=by
 have w:=of_decide_eq_true hw
 have a0:0≤c.slot:=by omega
 have a1:c.slot < ss.length:=by omega
 rw [ZmB]
 refine (VV a0 a1 _).trans ?_
 refine (VV a0 a1 _).trans ?_
 refine (congrArg (fun x=>Option.bind x _) (s57 _)).trans ?_
 generalize getS ss c.slot=s at hp
 obtain ⟨⟨⟨i1,i2,i3⟩,path,⟨ck,cb,cs,cr,cw,cl,cd⟩⟩,sop,⟨j1,j2,j3⟩⟩:=s
 rw [Option.bind_some]
 simp only [Zlc,s58,s59 ms hm]
 unfold ZkF
 refine Zz (fun h=>by rw [if_pos h]) fun h=>?_
 rw [if_neg h]
 unfold ZnZ
 have ln:(List.length (Zl path):Int)=path.length:=by simp [Zl]
 refine Zz (fun h2=>?_) fun h2=>?_
 ·simp only [CQ] at h2
  rw [if_pos h2,s56 ss hs c.dest c.count (by omega) (by omega) (by omega)]
  simp only [Option.bind_some,ln]
  repeat' (with_reducible refine Zz (fun _=>?_) (fun _=>?_))
  all_goals (refine congrArg some ?_;(try simp only [CQ] at *);grind)
 simp only [CQ] at h2
 rw [if_neg h2]
 refine Zz (fun h3=>?_) fun h3=>?_
 ·simp only [CQ] at h3
  rw [if_pos h3,s56 ss hs c.dest 1 (by omega) (by omega) (by omega)]
  simp only [Option.bind_some,ln]
  repeat' (with_reducible refine Zz (fun _=>?_) (fun _=>?_))
  all_goals (refine congrArg some ?_;(try simp only [CQ] at *);grind)
 simp only [CQ] at h3
 rw [if_neg h3]
 simp only [Option.bind_some,ln]
 repeat' (with_reducible refine Zz (fun _=>?_) (fun _=>?_))
 all_goals (refine congrArg some ?_;(try simp only [CQ] at *);grind)
def Zeq (core op width:Int) (ss:List YB) (rs:List Reg) (ms:List Int) (c:Call):Req×List Int×Int:=
 if c.kind=1 then (if Vb ss rs c≠0 then (Zdd,[],Vb ss rs c) else (⟨⟨core,op,0⟩,c,JS rs c.offset c.bits,width,YG⟩,Kn c.kind c.slot c.dest c.count,0))
 else if ZkF width ss ms (getS ss c.slot) c≠0 then (Zdd,[],ZkF width ss ms (getS ss c.slot) c)
 else if JS rs (getS ss c.slot).node.cap.base (getS ss c.slot).node.cap.bits < 0 then (Zdd,[],11)
 else (⟨⟨core,op,0⟩,c,JS rs (getS ss c.slot).node.cap.base (getS ss c.slot).node.cap.bits,width,(getS ss c.slot).node⟩,Kn c.kind c.slot c.dest c.count,0)
def ZeO (ss:List YB) (c:Call):Bool:=(Kn c.kind c.slot c.dest c.count).any fun i=>Zca (getS ss i)
def ZdW (core op width:Int) (n:Int) (c:Call):Bool:=decide (0≤core∧core < 32∧1≤op∧op≤1073741824∧(width=32∨width=39))&&wfB core n c
def ZcZ (core op width:Int) (ss:List YB) (rs:List Reg) (ms:List Int) (c:Call):Req×List Int×Int:=
 if ZdW core op width ss.length c=false then (Zdd,[],1) else if ZeO ss c=true then (Zdd,[],4) else Zeq core op width ss rs ms c
def Wp (p:Req×List Int×Int):=ZoY p.1 p.2.1 p.2.2
theorem Zhs {ss:List YB} {rs:List Reg} {c:Call} (h:Vb ss rs c=0):JN c.offset c.bits=true∧0≤JS rs c.offset c.bits∧Zeu ss c.dest 1=false:=by
 unfold Vb at h
 split at h
 ·omega
 ·split at h
  ·omega
  ·split at h
   ·omega
   ·rename_i h1 h2 h3
    exact ⟨by simpa using h1,by omega,by simpa using h3⟩
theorem ZhO {ss:List YB} (h:ZkY ss):ss.length≤70:=h.1
theorem Zj6 {ss:List YB} (h:ZkY ss) {i:Int} (h0:0≤i) (h1:i < ss.length):(getS ss i).node.path.length≤20:=h.2 _ (Zi5 h0 h1)
set_option maxHeartbeats 4000000 in
theorem Zn6 (core op width:Int) (ss:List YB) (rs:List Reg) (ms:List Int) (c:Call) (hs:ZkY ss) (hr:rs.length < 2^63) (hm:ms.length < 2^63) (hw:wfB core ss.length c=true) (k i:Nat) (hi:(Kn c.kind c.slot c.dest c.count).length≤i) :
  ZcP (k+1) core op width (ss.map YY) (rs.map JO) (Zd ms) c.kind c.slot c.dest c.core c.mask c.object c.bits c.level c.offset c.count c.index c.addr 0 0 0 0 0 0 0 0 0 0 0 0 0 0 0 0 0 0 0 0 E0 0 0 0 0 0 0 false (Zd (Kn c.kind c.slot c.dest c.count)) (Zd (Kn c.kind c.slot c.dest c.count)) (List.length (Zd (Kn c.kind c.slot c.dest c.count)):Int) (i:Int)=some (Wp (Zeq core op width ss rs ms c)):=by
 have w:=of_decide_eq_true hw
 have hs1:=ZhO hs
 rw [Ze5,Z2,if_neg (WO hi)]
 unfold Zeq
 refine Zz (fun h1=>?_) fun h1=>?_
 ·simp only [CQ] at h1
  rw [if_pos h1]
  refine (congrArg (fun x=>Option.bind x _) (s26 ss rs c (by omega) hr (by omega) (by omega))).trans ?_
  rw [Option.bind_some]
  refine Zz (fun h2=>?_) fun h2=>?_
  ·simp only [CQ] at h2
   rw [if_pos h2];rfl
  ·simp only [CQ] at h2
   have h2':Vb ss rs c=0:=by omega
   rw [if_neg h2]
   refine (congrArg (fun x=>Option.bind x _) (s30 rs hr c.offset c.bits)).trans ?_
   rw [if_pos (Zhs h2').2.1,Option.bind_some]
   rfl
 ·simp only [CQ] at h1
  have a0:0≤c.slot:=by omega
  have a1:c.slot < ss.length:=by omega
  have hp:=Zj6 hs a0 a1
  rw [if_neg h1]
  refine (congrArg (fun x=>Option.bind x _) (s27 core width ss ms c (by omega) hm hw h1 (by omega))).trans ?_
  rw [Option.bind_some]
  refine (VV a0 a1 _).trans ?_
  refine (congrArg (fun x=>Option.bind x _) (s28 (getS ss c.slot).node (by omega))).trans ?_
  rw [Option.bind_some]
  refine (congrArg (fun x=>Option.bind x _) (s29 ..)).trans ?_
  rw [Option.bind_some]
  refine Zz (fun h2=>?_) fun h2=>?_
  ·simp only [CQ] at h2
   rw [if_pos h2];rfl
  ·simp only [CQ] at h2
   rw [if_neg h2]
   refine (congrArg (fun x=>Option.bind x _) (s30 rs hr (getS ss c.slot).node.cap.base (getS ss c.slot).node.cap.bits)).trans ?_
   by_cases h3:0≤JS rs (getS ss c.slot).node.cap.base (getS ss c.slot).node.cap.bits
   ·rw [if_pos h3,if_neg (by omega),Option.bind_some];rfl
   ·rw [if_neg h3,if_pos (by omega),Option.bind_some];rfl
theorem Zi3 (ss:List YB) (c:Call) {α:Type} (a b:α):(if (List.range' 0 (Kn c.kind c.slot c.dest c.count).length).all (atB (fun i=>!Zca (getS ss i)) (Kn c.kind c.slot c.dest c.count))=true then a else b)=if ZeO ss c=true then b else a:=by
 rw [Zij]
 unfold ZeO
 rw [List.any_eq_not_all_not]
 cases (Kn c.kind c.slot c.dest c.count).all (fun i=>!Zca (getS ss i))<;>rfl
theorem Zht (c:Call) (hc:c.count≤1000):(Kn c.kind c.slot c.dest c.count).length≤1001:=by
 have h1:=ZkT ((Yl c.kind c.slot c.dest c.count).mergeSort fun x y=>decide (x≤y))
 rw [List.length_mergeSort] at h1
 refine Nat.le_trans h1 ?_
 unfold Yl
 split
 ·simp
 ·split
  ·simp;omega
  ·split<;>simp
set_option maxHeartbeats 4000000 in
theorem s10 (core op width:Int) (ss:List YB) (rs:List Reg) (ms:List Int) (c:Call) (hs:ZkY ss) (hr:rs.length < 2^63) (hm:ms.length < 2^63) (hc:c.count≤1000) :
    g10 core op width (ss.map YY) (rs.map JO) (Zd ms) c.kind c.slot c.dest c.core c.mask c.object c.bits c.level c.offset c.count c.index c.addr=some (Wp (ZcZ core op width ss rs ms c)):=by
  have hs1:=ZhO hs
  have hinv:g24 c.kind c.slot c.dest c.core c.mask c.object c.bits c.level c.offset c.count c.index c.addr=some (Zd (Kn c.kind c.slot c.dest c.count)):=by
    rw [ZnP]
    unfold Zmt
    rw [ZC hc]
    rfl
  have main:wfB core ss.length c=true→ZcP ZZ core op width (ss.map YY) (rs.map JO) (Zd ms) c.kind c.slot c.dest c.core c.mask c.object c.bits c.level c.offset c.count c.index c.addr 0 0 0 0 0 0 0 0 0 0 0 0 0 0 0 0 0 0 0 0 E0 0 0 0 0 0 0 false (Zd (Kn c.kind c.slot c.dest c.count)) (Zd (Kn c.kind c.slot c.dest c.count)) (List.length (Zd (Kn c.kind c.slot c.dest c.count)):Int) 0=some (Wp (if ZeO ss c=true then (Zdd,[],4) else Zeq core op width ss rs ms c)):=fun hw=>by
    have:=Zfi (F:=fun k z=>ZcP k core op width (ss.map YY) (rs.map JO) (Zd ms) c.kind c.slot c.dest c.core c.mask c.object c.bits c.level c.offset c.count c.index c.addr 0 0 0 0 0 0 0 0 0 0 0 0 0 0 0 0 0 0 0 0 E0 0 0 0 0 0 0 false (Zd (Kn c.kind c.slot c.dest c.count)) (Zd (Kn c.kind c.slot c.dest c.count)) (List.length (Zd (Kn c.kind c.slot c.dest c.count)):Int) z) (n:=(Kn c.kind c.slot c.dest c.count).length) (fin:=some (Wp (Zeq core op width ss rs ms c))) (bad:=some (Wp (Zdd,[],4))) (atB (fun i=>!Zca (getS ss i)) (Kn c.kind c.slot c.dest c.count)) (by have:=Zht c hc;omega) 0 (by omega)
      (fun k i _ hi=>by
        show ZcP (k+1) core op width (ss.map YY) (rs.map JO) (Zd ms) c.kind c.slot c.dest c.core c.mask c.object c.bits c.level c.offset c.count c.index c.addr 0 0 0 0 0 0 0 0 0 0 0 0 0 0 0 0 0 0 0 0 E0 0 0 0 0 0 0 false (Zd (Kn c.kind c.slot c.dest c.count)) (Zd (Kn c.kind c.slot c.dest c.count)) (List.length (Zd (Kn c.kind c.slot c.dest c.count)):Int) (i:Int)=_
        obtain ⟨b0,b1⟩:=Zda (by omega) hw _ (List.getElem_mem hi)
        have hlen:=Zht c hc
        rw [Ze5,Z2,if_pos (WM hi)]
        refine (J0 hi _).trans ?_
        refine (VV b0 b1 _).trans ?_
        refine (congrArg (fun x=>Option.bind x _) (s25 _)).trans ?_
        rw [Option.bind_some,Wc hi (by omega),Zbz _ hi]
        cases Zca (getS ss (Kn c.kind c.slot c.dest c.count)[i])<;>rfl)
      (fun k i hi=>Zn6 core op width ss rs ms c hs hr hm hw k i hi)
    rw [Nat.sub_zero,Zi3] at this
    refine Eq.trans this ?_
    split<;>rfl
  have hw36:=s23 core ss.length c (by omega) (by omega)
  rw [Zno,List.length_map,hw36,hinv]
  simp only [Option.bind_some]
  unfold ZcZ
  by_cases ha:ZdW core op width ss.length c=false
  · rw [if_pos ha]
    unfold ZdW at ha
    repeat' (with_reducible refine Zz (fun _=>?_) (fun _=>?_))
    all_goals first
      | rfl
      | (exfalso; simp only [CQ] at *; rw [Bool.and_eq_false_iff, decide_eq_false_iff_not] at ha; rename_i hlast; (try simp only [Bool.not_eq_true, Bool.not_eq_false'] at hlast); rcases ha with ha | ha
         · omega
         · rw [ha] at hlast;cases hlast)
  · rw [if_neg ha]
    have ha':ZdW core op width ss.length c=true:=by simpa using ha
    unfold ZdW at ha'
    rw [Bool.and_eq_true,decide_eq_true_eq] at ha'
    obtain ⟨a1,hw⟩:=ha'
    rw [hw,← main hw]
    repeat' (with_reducible refine Zz (fun _=>?_) (fun _=>?_))
    all_goals first
      | rfl
      | (exfalso; simp only [CQ, Bool.not_true, Bool.false_eq_true] at * <;> omega)
end Go.Proofs.YtapbmpfhogkkaaaGreat
end

section
namespace Go.Proofs.YtapbmpfhogkkaaaGreat
open Go Go.AM
set_option linter.unusedSimpArgs false
set_option linter.unusedVariables false
set_option maxRecDepth 100000
theorem Ki (z:Int):0≤IntKind.u64.wrap z:=by
 simp only [IntKind.wrap]
 have:IntKind.u64.signed=false:=rfl
 simp [this,IntKind.bits]
 omega
theorem s21 (a b:Int):Ret (fun _=>True) (g21 a b):=by
 rw [Zoj]
 refine Ze (place _ _ (by decide) (by decide)) fun _ _=>Zc (by decide) (Zc (by decide) (Ze (place _ _ (by decide) (by decide)) fun _ _=>Zb (fun _=>?_) fun _=>?_))
 ·exact Zc (by decide) (Ze (place _ _ (by decide) (by decide)) fun _ _=>Zc (by decide) (Za trivial))
 ·exact Zc (by decide) (Ze (place _ _ (by decide) (by decide)) fun _ _=>Zc (by decide) (Zc (by decide) (Ze (place _ _ (by decide) (by decide)) fun _ _=>Zc (by decide) (Za trivial))))
def Zm2 (c:Call):Qt15:=(c.kind,c.slot,c.dest,c.core,c.mask,c.object,c.bits,c.level,c.offset,c.count,c.index,c.addr)
theorem WI {γ:Type} {P:γ→Prop} {l:List Reg} {z:Int} {k:(Int×Int×Bool)→Option γ} (h0:0≤z) (h:z.toNat < l.length) (hk:∀ r,Ret P (k r)):Ret P (Zj (l.map JO) z [.int .i64,.int .i64,.bool] k):=by
 have e:z=((z.toNat:Nat):Int):=by omega
 have:=Y4 h k
 rw [← e] at this
 exact Zk this (hk _)
theorem ZcY:Kn 1 0 2 0 = [2]:=by
 obtain ⟨h1,h2⟩:=Zg2 1 0 2 0
 exact ZkN h1 (List.pairwise_singleton _ _) fun x=>(h2 x).trans (by simp [Yl])
def awC:Call:=⟨1,0,2,0,0,0,14,0,262144,0,0,0⟩
def awS:List YB:=List.replicate 4 ZkE
def awR:List Reg:=[⟨262144,16,false⟩]
theorem ZlH:ZcZ 1 5 32 awS awR [0,1] awC=(⟨⟨1,5,0⟩,awC,0,32,YG⟩,[2],0):=by
 have hb:ZeO awS awC=false:=by
  show List.any (Kn 1 0 2 0) _=false
  rw [ZcY];kernel_rfl
 unfold ZcZ
 rw [hb,if_neg (show ¬ ZdW 1 5 32 awS.length awC=false by decide),if_neg (by decide)]
 unfold Zeq
 rw [if_pos (show awC.kind=1 from rfl),if_neg (show ¬ Vb awS awR awC≠0 from not_not_intro (by kernel_rfl))]
 show (_,Kn 1 0 2 0,_)=_
 rw [ZcY];kernel_rfl
theorem s12:g12=some true:=by
 rw [ZnH,ZC (by decide),ZC (by decide),ZC (by decide)]
 simp only [Zmo,Option.bind_some]
 refine (congrArg (fun x=>Option.bind x _) ((s10 1 5 32 awS awR [0,1] awC ⟨by decide,by decide⟩ (by decide) (by decide) (by decide)).trans (congrArg (fun x=>some (Wp x)) ZlH))).trans ?_
 rw [Option.bind_some]
 refine (congrArg (fun x=>Option.bind x _) (s30 awR (by decide) 262144 12)).trans ?_
 kernel_rfl
theorem Zif {d:Nat} {cs:List AV} (h:TyR Tryz.prog (d+2) 25 cs):∃ w0 w1 w2 w3 w4 w5 w6 w7 w8,cs = [I w0,I w1,I w2,I w3,I w4,I w5,I w6,I w7,I w8]:=by
 rw [TyR] at h
 simp only [Tryz.underlying25] at h
 obtain ⟨ps,rfl,hl,hp⟩:=h
 obtain ⟨p0,p1,p2,p3,p4,p5,p6,p7,p8,rfl⟩:∃ p0 p1 p2 p3 p4 p5 p6 p7 p8,ps = [p0,p1,p2,p3,p4,p5,p6,p7,p8]:=by
  match ps,hl with
  | [p0, p1, p2, p3, p4, p5, p6, p7, p8], _ => exact ⟨p0, p1, p2, p3, p4, p5, p6, p7, p8, rfl⟩
 obtain ⟨w0,rfl⟩:=Kv (hp 0 _ _ rfl rfl)
 obtain ⟨w1,rfl⟩:=Kv (hp 1 _ _ rfl rfl)
 obtain ⟨w2,rfl⟩:=Kv (hp 2 _ _ rfl rfl)
 obtain ⟨w3,rfl⟩:=Kv (hp 3 _ _ rfl rfl)
 obtain ⟨w4,rfl⟩:=Kv (hp 4 _ _ rfl rfl)
 obtain ⟨w5,rfl⟩:=Kv (hp 5 _ _ rfl rfl)
 obtain ⟨w6,rfl⟩:=Kv (hp 6 _ _ rfl rfl)
 obtain ⟨w7,rfl⟩:=Kv (hp 7 _ _ rfl rfl)
 obtain ⟨w8,rfl⟩:=Kv (hp 8 _ _ rfl rfl)
 exact ⟨w0,w1,w2,w3,w4,w5,w6,w7,w8,rfl⟩
theorem Zkd {x:AV} (h:VW Tryz.prog 12 25 x):∃ w0 w1 w2 w3 w4 w5 w6 w7 w8,x = .agg [I w0,I w1,I w2,I w3,I w4,I w5,I w6,I w7,I w8]:=by
 simp only [VW,Tryz.underlying25] at h
 obtain ⟨cs,rfl,h⟩:=h
 obtain ⟨w0,w1,w2,w3,w4,w5,w6,w7,w8,rfl⟩:=Zif h
 exact ⟨w0,w1,w2,w3,w4,w5,w6,w7,w8,rfl⟩
end Go.Proofs.YtapbmpfhogkkaaaGreat
end

section
namespace Go.Proofs.YtapbmpfhogkkaaaGreat
open Go Go.AM
set_option linter.unusedSimpArgs false
set_option linter.unusedVariables false
set_option maxRecDepth 100000
theorem Znd (rs:List Reg) (b n:Int) (h:0≤JS rs b n):JS rs b n < rs.length:=by
 unfold JS ZaC at h ⊢
 split at h
 ·rw [if_pos ‹_›];omega
 ·omega
theorem ZhP {ss:List YB} (h:∀ s∈ss,s.op=0∧s.lock=zid) (i:Int):Zca (getS ss i)=false:=by
 have e:(getS ss i).op=0∧(getS ss i).lock=zid:=by
  unfold getS
  cases e:ss[i.toNat]? with
  | none => exact ⟨rfl, rfl⟩
  | some s => exact h s (List.mem_of_getElem? e)
 unfold Zca
 rw [e.1,e.2];rfl
end Go.Proofs.YtapbmpfhogkkaaaGreat
end

section
namespace Go.Proofs.YtapbmpfhogkkaaaGreat
open Go Go.AM
set_option linter.unusedSimpArgs false
set_option linter.unusedVariables false
set_option maxRecDepth 100000
abbrev Tr {γ:Type} (o:Option γ):Prop:=Ret (fun _=>True) o
def Zdw (n:Nat) (x:LL):Prop:=x.length≤n∧∀ c∈x,∃ a b d e f g:Int,c = [I a,I b,I d,I e,I f,I g]
def KM (n:Nat) (x:LL):Prop:=x.length≤n∧∀ c∈x,∃ (a b d:Int) (ms:LL),c = [I a,I b,I d,AV.slice false 6 ms]∧Zdw n ms
theorem Vg {γ:Type} {P:γ→Prop} {n:Nat} {x:LL} (h:Zdw n x) {z:Int} (h0:0≤z) (hz:z < (x.length:Int)) {k:(Int×Int×Int×Int×Int×Int)→Option γ} (hk:∀ r,Ret P (k r)) :
  Ret P (Zj x z [.int .i64,.int .i64,.int .i64,.int .i64,.int .i64,.int .i64] k):=by
 have hj:z.toNat < x.length:=by omega
 obtain ⟨a,b,d,e,f,g,he⟩:=h.2 _ (List.getElem_mem hj)
 exact Zk (YO (sh:=[.int .i64,.int .i64,.int .i64,.int .i64,.int .i64,.int .i64]) (cs:=x[z.toNat]) (r:=(a,b,d,e,f,g)) k h0 (List.getElem?_eq_getElem hj) (by rw [he];rfl)) (hk _)
theorem Kh {γ:Type} {P:γ→Prop} {n:Nat} {x:LL} (h:KM n x) {z:Int} (h0:0≤z) (hz:z < (x.length:Int)) {k:(Int×Int×Int×LL)→Option γ}
  (hk:∀ a b d ms,Zdw n ms→x[z.toNat]? = some [I a,I b,I d,AV.slice false 6 ms]→Ret P (k (a,b,d,ms))):Ret P (Zj x z [.int .i64,.int .i64,.int .i64,.slice 6] k):=by
 have hj:z.toNat < x.length:=by omega
 obtain ⟨a,b,d,ms,he,hm⟩:=h.2 _ (List.getElem_mem hj)
 exact Zk (YO (sh:=[.int .i64,.int .i64,.int .i64,.slice 6]) (cs:=x[z.toNat]) (r:=(a,b,d,ms)) k h0 (List.getElem?_eq_getElem hj) (by rw [he];rfl)) (hk _ _ _ _ hm (by rw [List.getElem?_eq_getElem hj,he]))
theorem Zjj (n:Nat):Zdw n []:=⟨Nat.zero_le _,fun _ h=>by cases h⟩
theorem Yw (n:Nat):KM n []:=⟨Nat.zero_le _,fun _ h=>by cases h⟩
theorem ZdF {n m:Nat} {x:LL} (h:Zdw n x) (hnm:n≤m):Zdw m x:=⟨Nat.le_trans h.1 hnm,h.2⟩
theorem Yh {n m:Nat} {x:LL} (h:KM n x) (hnm:n≤m):KM m x:=
 ⟨Nat.le_trans h.1 hnm,fun c hc=>by obtain ⟨a,b,d,ms,e,hm⟩:=h.2 c hc;exact ⟨a,b,d,ms,e,ZdF hm hnm⟩⟩
theorem Zg4 {n:Nat} {x y:LL} (hx:∀ c∈y,c∈x∨∃ a b d e f g:Int,c = [I a,I b,I d,I e,I f,I g]) (h:Zdw n x) {m:Nat} (hl:y.length≤m):Zdw m y:=
 ⟨hl,fun c hc=>(hx c hc).elim (fun h1=>h.2 c h1) id⟩
theorem Zha {n m:Nat} {x y:LL} (hnm:n≤m) (hx:∀ c∈y,c∈x∨∃ (a b d:Int) (ms:LL),c = [I a,I b,I d,AV.slice false 6 ms]∧Zdw m ms) (h:KM n x) (hl:y.length≤m):KM m y:=
 ⟨hl,fun c hc=>(hx c hc).elim (fun h1=>(Yh h hnm).2 c h1) id⟩
theorem Vp (l:LL) (i o:Nat) (c:List AV):(Zp l i o c).length=l.length:=by simp [Zp]
theorem ZgX {l:LL} {i o:Nat} {v c:List AV} (h:c∈Zp l i o v):∃ r∈l,c=r∨c=setCells r o v:=by
 obtain ⟨j,hj⟩:=List.mem_iff_getElem?.1 h
 unfold Zp at hj
 rw [List.getElem?_modify] at hj
 cases hx:l[j]? with
 | none => rw [hx] at hj; cases hj
 | some r =>
  rw [hx] at hj
  have hj':(if i=j then setCells r o v else r)=c:=by simpa using hj
  refine ⟨r,List.mem_of_getElem? hx,?_⟩
  split at hj'
  ·exact .inr hj'.symm
  ·exact .inl hj'.symm
theorem Zfs {n m:Nat} {x:LL} (hnm:n≤m) (h:KM n x) {i:Nat} {ms:LL} (hm:Zdw m ms):KM m (Zp x i 3 [AV.slice false 6 ms]):=by
 refine ⟨by rw [Vp];exact Nat.le_trans h.1 hnm,fun c hc=>?_⟩
 obtain ⟨r,hr,hcr⟩:=ZgX hc
 obtain ⟨a,b,d,ms',e,hm'⟩:=h.2 r hr
 subst e
 rcases hcr with rfl | rfl
 ·exact ⟨a,b,d,ms',rfl,ZdF hm' hnm⟩
 ·exact ⟨a,b,d,ms,rfl,hm⟩
theorem Zp6 (x:Int):Tr (Zow x):=by
 rw [Zl3];exact Zb (fun _=>Zc (by decide) (Zb (fun _=>Za trivial) fun _=>Za trivial)) fun _=>Za trivial
theorem t70 (x:Int):Ret (fun r=>x=32∨x=39→r=10∨r=9) (g70 x):=by
 rw [Znu]
 exact Zb (fun _=>Za fun _=>.inl rfl) fun h1=>Zb (fun _=>Za fun _=>.inr rfl) fun h2=>Za fun h=>by simp only [CQ] at h1 h2;omega
theorem t77 (x:Int):Ret (fun r=>(r=2∨r=3∨r=0)∧(0 < r→x=32∨x=39)) (g77 x):=by
 rw [Zm9]
 exact Zb (fun h=>Za ⟨by omega,fun _=>.inl (by simpa only [CQ] using h)⟩) fun h1=>Zb (fun h=>Za ⟨by omega,fun _=>.inr (by simpa only [CQ] using h)⟩) fun h2=>Za ⟨by omega,fun h=>by omega⟩
theorem t78 (x y:Int):Ret (fun b=>b=true→x=32∨x=39) (g78 x y):=by
 rw [Zm0]
 exact Zb (fun h=>Zb (fun _=>Zc (Ki _) (Za fun _=>.inl (by simpa only [CQ] using h))) fun _=>Za fun h=>by cases h) fun h1=>
  Zb (fun h=>Zb (fun _=>Zc (Ki _) (Za fun _=>.inr (by simpa only [CQ] using h))) fun _=>Za fun h=>by cases h) fun h2=>Za fun h=>by cases h
theorem t79 (x y z:Int):Tr (g79 x y z):=by
 rw [ZnB]
 refine Ze (t78 x z) fun b hb=>Zb (fun _=>Za trivial) fun h1=>Zb (fun _=>Za trivial) fun h2=>Ze (t77 x) fun r hr=>Zb (fun _=>Za trivial) fun h3=>Zc (by decide) ?_
 have hx:x=32∨x=39:=hb (by simpa using h1)
 simp only [CQ] at h2 h3
 obtain ⟨n,hn⟩:∃ n:Nat,y=n:=⟨y.toNat,by omega⟩
 subst hn
 refine Zw (F:=fun k (s:Int) w=>ZjC k x (n:Int) s w) n (fun _ _=>True) (by omega) ?_ (iop .quo .i64 z 4096) trivial
 intro k i s hi _ next
 refine Zk (Zjg ..) ?_
 refine Zb (fun hlt=>?_) fun hge=>?_
 ·simp only [CQ] at hlt
  refine Ze (t70 x) fun r4 _=>Zc (Ki _) ?_
  rw [JU hi (by omega)]
  exact next (by omega) _ trivial
 ·refine Ze (t70 x) fun r4 h4=>Zc (Ki _) (Zc ?_ (Za trivial))
  rcases h4 hx with rfl | rfl<;>decide
theorem t96 (a b d:Int) {n:Nat} {ms:LL} (h:Zdw n ms) (hn:n≤900):Tr (g96 a b d ms):=by
 have hl:ms.length < 1000:=by have:=h.1;omega
 rw [Zmp]
 refine Zb (fun _=>Za trivial) fun h1=>Ze (t77 b) fun r4 _=>Zb (fun _=>Za trivial) fun _=>Ze (Zp6 a) fun r5 _=>Zb (fun _=>Za trivial) fun _=>Zb (fun _=>Za trivial) fun _=>?_
 refine Zw (F:=fun k (s:Int) w=>Zh1 k a b d ms s w) ms.length (fun _ _=>True) hl ?_ (-1) trivial
 intro k i s hi _ next
 refine Zk (Zkr ..) ?_
 refine Zb (fun hlt=>?_) fun _=>Za trivial
 simp only [CQ] at hlt
 refine Vg h (by omega) hlt fun r=>Zb (fun _=>Za trivial) fun _=>Ze (t70 b) fun r12 _=>Zc (Ki _) (Zb (fun _=>Za trivial) fun _=>?_)
 refine Ze ⟨_,s97 ..,trivial⟩ fun r13 (_:True)=>Zb (fun _=>Za trivial) fun _=>Ze (Zp6 _) fun r14 _=>Zb (fun _=>Za trivial) fun _=>Zb (fun _=>Za trivial) fun _=>Zb (fun _=>Za trivial) fun _=>?_
 rw [JU hi hl]
 exact Zb (fun _=>Zb (fun _=>Za trivial) fun _=>next (by omega) _ trivial) fun _=>next (by omega) _ trivial
theorem t68 {n:Nat} {x:LL} (h:KM n x) (hn:n≤900):Tr (g68 x):=by
 have hl:x.length < 1000:=by have:=h.1;omega
 rw [Zn9]
 refine Zw (F:=fun k (_:Unit) w=>Zf7 k x w) x.length (fun _ _=>True) hl ?_ () trivial
 intro k i s hi _ next
 refine Zk (ZjV ..) ?_
 refine Zb (fun hlt=>?_) fun _=>Za trivial
 simp only [CQ] at hlt
 refine Kh h (by omega) hlt fun a b d ms hm _=>Ze (t96 a b d hm hn) fun r6 _=>Zb (fun _=>Za trivial) fun _=>?_
 have nx:Tr (Zf7 k x (iop .add .i64 (i:Int) 1)):=by rw [JU hi hl];exact next (by omega) () trivial
 refine Zb (fun hgt=>?_) fun _=>nx
 simp only [CQ] at hgt
 refine Kh h (by omega) hlt fun a b d ms hm _=>?_
 have hs:iop .sub .i64 (i:Int) 1=(i:Int)-1:=ZdI (by omega) (by omega)
 rw [hs]
 exact Kh h (by omega) (by omega) fun _ _ _ _ _ _=>Zb (fun _=>Za trivial) fun _=>nx
theorem t71 {n:Nat} {x:LL} (h:KM n x) (hn:n≤900) (z:Int):Ret (fun r=>r < 0∨0≤r∧r < (x.length:Int)) (g71 x z):=by
 have hl:x.length < 1000:=by have:=h.1;omega
 rw [Zmx]
 refine Zw (F:=fun k (_:Unit) w=>ZiZ k x z w) x.length (fun _ _=>True) hl ?_ () trivial
 intro k i s hi _ next
 refine Zk (Zi8 ..) ?_
 refine Zb (fun hlt=>?_) fun _=>Za (.inl (by decide))
 simp only [CQ] at hlt
 refine Kh h (by omega) hlt fun a b d ms hm _=>Zb (fun _=>Za (.inr ⟨by omega,hlt⟩)) fun _=>?_
 rw [JU hi hl]
 exact next (by omega) () trivial
theorem t72 (a b d:Int) {n:Nat} {x:LL} (h:Zdw n x) (hn:n≤900) (z:Int):Ret (fun r=>r < 0∨0≤r∧r < (x.length:Int)) (g72 a b d x z):=by
 have hl:x.length < 1000:=by have:=h.1;omega
 rw [ZnE]
 refine Zw (F:=fun k (_:Unit) w=>Zjq k z a b d x w) x.length (fun _ _=>True) hl ?_ () trivial
 intro k i s hi _ next
 refine Zk (ZjO ..) ?_
 refine Zb (fun hlt=>?_) fun _=>Za (.inl (by decide))
 simp only [CQ] at hlt
 refine Vg h (by omega) hlt fun r=>Zb (fun _=>Za (.inr ⟨by omega,hlt⟩)) fun _=>?_
 rw [JU hi hl]
 exact next (by omega) () trivial
theorem t69 {n:Nat} {x:LL} (h:KM n x) (hn:n≤900) (c:Cap):Tr (g69 x c.kind c.base c.bits c.rights c.width c.level c.device):=by
 rw [ZmA]
 refine Ze ⟨_,s76 ..,trivial⟩ fun r8 (_:True)=>Zb (fun _=>Za trivial) fun _=>Zb (fun _=>Za trivial) fun _=>Ze (t71 h hn _) fun r9 h9=>Zb (fun _=>Za trivial) fun hge=>?_
 simp only [CQ] at hge
 refine Kh h (by omega) (by omega) fun _ _ _ _ _ _=>Zb (fun _=>Kh h (by omega) (by omega) fun _ _ _ _ _ _=>Za trivial) fun _=>Za trivial
theorem t75 (a b d e f g:Int) (q:Bool) (a' b' d' e' f' g':Int) (q':Bool):Tr (g75 a b d e f g q a' b' d' e' f' g' q'):=by
 rw [ZmW]
 exact Zb (fun _=>Zb (fun _=>Za trivial) fun _=>Za trivial) fun _=>Zb (fun _=>Zb (fun _=>Za trivial) fun _=>Za trivial) fun _=>Za trivial
theorem Jw {γ:Type} {x:LL} {z a b d:Int} {ms:LL} (h0:0≤z) (he:x[z.toNat]? = some [I a,I b,I d,AV.slice false 6 ms]) (k:(Int×Int×Int×LL)→Option γ):Zj x z [.int .i64,.int .i64,.int .i64,.slice 6] k=k (a,b,d,ms):=
 YO (sh:=[.int .i64,.int .i64,.int .i64,.slice 6]) (cs:=[I a,I b,I d,AV.slice false 6 ms]) (r:=(a,b,d,ms)) k h0 he rfl
theorem Zcb {n:Nat} {x:LL} (h:KM n x) {z:Int} (h0:0≤z) (h1:z < (x.length:Int)):∃ (a b d:Int) (ms:LL),x[z.toNat]? = some [I a,I b,I d,AV.slice false 6 ms]∧Zdw n ms:=by
 have hj:z.toNat < x.length:=by omega
 obtain ⟨a,b,d,ms,he,hm⟩:=h.2 _ (List.getElem_mem hj)
 exact ⟨a,b,d,ms,by rw [List.getElem?_eq_getElem hj,he],hm⟩
theorem t73 {n:Nat} {x:LL} (h:KM n x) (hn:n≤900):g73 x=some x:=by
 have hl:x.length < 1000:=by have:=h.1;omega
 have key:Ret (fun r=>r=x) (g73 x):=by
  rw [Zn2]
  refine Zw (F:=fun k (s:LL) w=>ZiV k x s w) x.length (fun i s=>s=x.take i) hl ?_ E0 rfl
  rintro k i s hi rfl next
  refine Zk (Zj2 ..) ?_
  refine Zb (fun hlt=>?_) fun hge=>Za ?_
  ·simp only [CQ] at hlt
   refine Kh h (by omega) hlt fun a b d ms hm he=>Zc (Zh (by have:=hm.1;simp;omega) (by decide)) (Zc (Zh (by simp;omega) (by decide)) ?_)
   rw [JU hi hl]
   refine next (by omega) _ ?_
   rw [Int.toNat_natCast] at he
   rw [List.take_add_one,he]
   rfl
  ·simp only [CQ] at hge
   rw [List.take_of_length_le (by omega)]
 obtain ⟨r,e,rfl⟩:=key
 exact e
theorem ZiK {x:LL} {i j:Nat} {c:List AV} (h:c∈x.take i++x.drop j):c∈x:=by
 rcases List.mem_append.1 h with h | h
 ·exact List.mem_of_mem_take h
 ·exact List.mem_of_mem_drop h
theorem t42 {n:Nat} {x:LL} (h:KM n x) (hn:n≤900) (c:Cap) (z:Int):Ret (fun r=>KM n r.1) (g42 x c.kind c.base c.bits c.rights c.width c.level c.device z):=by
 have hl:x.length≤900:=by have:=h.1;omega
 rw [ZnC]
 refine Ze (t68 h hn) fun r9 _=>Zb (fun _=>Za (Yw n)) fun _=>Ze (t69 h hn c) fun r10 _=>Zb (fun _=>Za (Yw n)) fun _=>Zb (fun _=>Za (Yw n)) fun _=>Ze (t70 _) fun r11 _=>Zc (Ki _) (Zb (fun _=>Za (Yw n)) fun _=>?_)
 refine Ze (t71 h hn _) fun r12 h12=>Zb (fun _=>Za (Yw n)) fun hge=>?_
 simp only [CQ] at hge
 have g0:0≤r12:=by omega
 have g1:r12 < (x.length:Int):=by omega
 obtain ⟨a,b,d,ms,he,hm⟩:=Zcb h g0 g1
 have hml:ms.length≤900:=by have:=hm.1;omega
 obtain ⟨v,hv,hs⟩:=t72 a b d hm hn z
 refine Zk (Jw g0 he _) (Zf hv (Zb (fun _=>Za (Yw n)) fun hge2=>?_))
 simp only [CQ] at hge2
 have v0:0≤v:=by omega
 have v1:v < (ms.length:Int):=by omega
 have ev:iop .add .i64 v 1=v+1:=J5 (by omega) (by omega)
 have er:iop .add .i64 r12 1=r12+1:=J5 (by omega) (by omega)
 refine Zk (Jw g0 he _) (Zf hv ?_)
 rw [ev,er]
 refine Zk (Jw g0 he _) (Vg hm v0 v1 fun r27=>Zf (t73 h hn) ?_)
 refine Zk (Jw g0 he _) (Zc v0 (Zc (by show v≤(ms.length:Int);omega) (Zc (Zh (by simp;omega) (by decide)) ?_)))
 refine Zk (Jw g0 he _) (Zc (by omega) (Zc (by show v+1≤(ms.length:Int);omega) (Zc (Zh (by simp;omega) (by decide)) ?_)))
 refine Zc g0 (Zc g1 (Zc g0 (Zc g1 ?_)))
 have hT:KM n (Zp x r12.toNat 3 [AV.slice false 6 (List.take v.toNat ms++List.drop (v+1).toNat ms)]):=Zfs (Nat.le_refl _) h (Zg4 (fun c hc=>.inl (ZiK hc)) hm (by have:=hm.1;simp;omega))
 have hyl:=Vp x r12.toNat 3 [AV.slice false 6 (List.take v.toNat ms++List.drop (v+1).toNat ms)]
 revert hT hyl
 generalize Zp x r12.toNat 3 [AV.slice false 6 (List.take v.toNat ms++List.drop (v+1).toNat ms)]=y
 intro hT hyl
 refine Kh hT g0 (by omega) fun _ _ _ ms' _ _=>Zb (fun _=>?_) fun _=>Za hT
 refine Zc g0 (Zc (by omega) (Zc (Zh (by simp;omega) (by decide)) (Zc (by omega) (Zc (by omega) (Zc (Zh (by simp;omega) (by decide)) (Za ?_))))))
 exact Zha (Nat.le_refl _) (fun c hc=>.inl (ZiK hc)) hT (by have:=hT.1;simp;omega)
theorem Zhw {x:LL} {i:Nat} {c r:List AV} (h:c∈(x.take i++(E0++[r]))++x.drop i):c∈x∨c=r:=by
 simp only [List.mem_append,List.nil_append,List.mem_singleton] at h
 rcases h with (h | h) | h
 ·exact .inl (List.mem_of_mem_take h)
 ·exact .inr h
 ·exact .inl (List.mem_of_mem_drop h)
theorem ZqV {n:Nat} {x:LL} (h:KM n x) (hn:n≤900) (a b d e f:Int) (q:Bool) (g1 g2 g3 g4 g5 g6 a0:Int):Ret (fun r=>KM (n+1) r.1) (Zgi ZZ a0 a b d e f q g1 g2 g3 g4 g5 g6 x 0):=by
 have hl:x.length < 1000:=by have:=h.1;omega
 have hT:∀ i:Nat,i≤x.length→KM (n+1) ((List.take i x++(E0++[[I a,I e,I f,AV.slice false 6 (E0++[[I g1,I g2,I g3,I g4,I g5,I g6]])]]))++List.drop i x):=fun i hi=>
  Zha (Nat.le_succ n) (fun c hc=>(Zhw hc).imp id fun h=>⟨_,_,_,_,h,by simp,fun c hc=>by simp only [List.nil_append,List.mem_singleton] at hc;exact ⟨_,_,_,_,_,_,hc⟩⟩) h (by have:=h.1;simp;omega)
 refine Zw (F:=fun k (_:Unit) w=>Zgi k a0 a b d e f q g1 g2 g3 g4 g5 g6 x w) x.length (fun _ _=>True) hl ?_ () trivial
 intro k i s hi _ next
 refine Zk (Zjy ..) ?_
 refine Zb (fun hlt=>?_) fun _=>?_
 ·simp only [CQ] at hlt
  refine Kh h (by omega) hlt fun _ _ _ _ _ _=>Zb (fun _=>?_) fun _=>?_
  ·rw [JU hi hl];exact next (by omega) () trivial
  ·exact Zc (by omega) (Zc (by omega) (Zc (Zh (by simp;omega) (by decide)) (Zc (Zh (by simp;omega) (by decide)) (Zc (by omega) (Zc (by omega) (Zc (Zh (by simp;omega) (by decide)) (Za (by rw [Int.toNat_natCast];exact hT i hi))))))))
 ·exact Zc (by omega) (Zc (by omega) (Zc (Zh (by simp;omega) (by decide)) (Zc (Zh (by simp;omega) (by decide)) (Zc (by omega) (Zc (by omega) (Zc (Zh (by simp;omega) (by decide)) (Za (by rw [Int.toNat_natCast];exact hT i hi))))))))
theorem Zq1 {n:Nat} {x ms:LL} (h:KM n x) (hm:Zdw n ms) (hn:n≤900) (z g1 g2 g3 g4 g5 g6 t:Int) (t0:0≤t) (t1:t < (x.length:Int)):Ret (fun r=>KM (n+1) r.1) (Zf1 ZZ z g1 g2 g3 g4 g5 g6 x t ms 0):=by
 have hl:ms.length < 1000:=by have:=hm.1;omega
 have hT:∀ i:Nat,i≤ms.length→KM (n+1) (Zp x t.toNat 3 [AV.slice false 6 ((List.take i ms++(E0++[[I g1,I g2,I g3,I g4,I g5,I g6]]))++List.drop i ms)]):=fun i hi=>
  Zfs (Nat.le_succ n) h (Zg4 (fun c hc=>(Zhw hc).imp id fun h=>⟨_,_,_,_,_,_,h⟩) hm (by have:=hm.1;simp;omega))
 refine Zw (F:=fun k (_:Unit) w=>Zf1 k z g1 g2 g3 g4 g5 g6 x t ms w) ms.length (fun _ _=>True) hl ?_ () trivial
 intro k i s hi _ next
 refine Zk (Zi4 ..) ?_
 refine Zb (fun hlt=>?_) fun _=>?_
 ·simp only [CQ] at hlt
  refine Vg hm (by omega) hlt fun _=>Zb (fun _=>?_) fun _=>?_
  ·rw [JU hi hl];exact next (by omega) () trivial
  ·exact Zc (by omega) (Zc (by omega) (Zc (Zh (by simp;omega) (by decide)) (Zc (Zh (by simp;omega) (by decide)) (Zc (by omega) (Zc (by omega) (Zc (Zh (by simp;omega) (by decide)) (Zc t0 (Zc t1 (Zc t0 (Zc t1 (Za (by rw [Int.toNat_natCast];exact hT i hi))))))))))))
 ·exact Zc (by omega) (Zc (by omega) (Zc (Zh (by simp;omega) (by decide)) (Zc (Zh (by simp;omega) (by decide)) (Zc (by omega) (Zc (by omega) (Zc (Zh (by simp;omega) (by decide)) (Zc t0 (Zc t1 (Zc t0 (Zc t1 (Za (by rw [Int.toNat_natCast];exact hT i hi))))))))))))
theorem t43 {n:Nat} {x:LL} (h:KM n x) (hn:n≤900) (c:Cap) (z:Int) (nd:K3) (hp:nd.path.length < 2^63) (m:Int) :
  Ret (fun r=>KM (n+1) r.1) (g43 x c.kind c.base c.bits c.rights c.width c.level c.device z nd.id.core nd.id.op nd.id.part (Zl nd.path) nd.cap.kind nd.cap.base nd.cap.bits nd.cap.rights nd.cap.width nd.cap.level nd.cap.device m):=by
 have hl:x.length≤900:=by have:=h.1;omega
 have h0:=Yw (n+1)
 rw [ZnG]
 refine Ze (t68 h hn) fun r9 _=>Zb (fun _=>Za h0) fun _=>Zf (s74 nd hp) (Zb (fun _=>Za h0) fun _=>Zb (fun _=>Za h0) fun _=>Zb (fun _=>Za h0) fun _=>Ze (t69 h hn c) fun r10 _=>Zb (fun _=>Za h0) fun _=>?_)
 refine Ze (t75 ..) fun r24 _=>Zb (fun _=>Za h0) fun _=>Zb (fun _=>Za h0) fun _=>Ze (t70 _) fun r11 _=>Zc (Ki _) (Zb (fun _=>Za h0) fun _=>?_)
 refine Zb (fun _=>?_) fun _=>?_
 all_goals
  refine Zf (t73 h hn) (Ze (t71 h hn _) fun r27 h27=>Zb (fun _=>ZqV h hn ..) fun hge=>?_)
  simp only [CQ] at hge
  have g0:0≤r27:=by omega
  have g1:r27 < (x.length:Int):=by omega
  obtain ⟨a,b,d,ms,he,hm⟩:=Zcb h g0 g1
  refine Zc g0 (Zc g1 (Zk (Jw g0 he _) (Ze (t72 a b d hm hn z) fun r32 _=>Zb (fun _=>Za h0) fun _=>Zc g0 (Zc g1 (Zk (Jw g0 he _) ?_)))))
  exact Zq1 h hm hn _ _ _ _ _ _ _ _ g0 g1
theorem l44 {n:Nat} {x:LL} (h:KM n x) (hn:n≤900) (z c1 c2 c3 c4 c5 c6:Int) (c7:Bool) (y1 y2 y3 y4:Int) (y5 y6:LL) (y7 y8:Int):∀ (j fuel:Nat) (p q b:Int) (ids:List Id) (tb:LL),j < fuel→ids.length+j≤10→tb.length+j≤10→
  Tr (Zkq fuel x z c1 c2 c3 c4 c5 c6 c7 y1 y2 y3 y4 y5 y6 y7 y8 p q (Zl ids) tb b ((j:Int)-1)):=by
 intro j
 induction j with
 | zero =>
  intro fuel p q b ids tb hf _ _
  obtain ⟨k,rfl⟩:∃ k,fuel=k+1:=⟨fuel-1,by omega⟩
  refine Zk (ZfR ..) (Zb (fun hg=>?_) fun _=>Za trivial)
  simp only [CQ] at hg
  omega
 | succ j ih =>
  intro fuel p q b ids tb hf hi ht
  obtain ⟨k,rfl⟩:∃ k,fuel=k+1:=⟨fuel-1,by omega⟩
  have e1:(((j+1:Nat):Int)-1)=(j:Int):=by omega
  rw [e1]
  refine Zk (ZfR ..) (Zb (fun hg=>?_) fun _=>Za trivial)
  refine Ze (t71 h hn _) fun r23 h23=>Zb (fun _=>Za trivial) fun hge=>?_
  simp only [CQ] at hge
  have g0:0≤r23:=by omega
  have g1:r23 < (x.length:Int):=by omega
  obtain ⟨a,b',d,ms,he,hm⟩:=Zcb h g0 g1
  refine Zk (Jw g0 he _) (Zb (fun _=>Za trivial) fun _=>Zk (Jw g0 he _) (Zb (fun _=>Za trivial) fun _=>Zk (Jw g0 he _) ?_))
  refine Ze (t79 ..) fun r36 _=>Ze (t72 a b' d hm hn _) fun r37 h37=>Zb (fun _=>Za trivial) fun hge2=>?_
  simp only [CQ] at hge2
  refine Zk (Jw g0 he _) (Vg hm (by omega) (by omega) fun r42=>?_)
  refine Zf (s80 ids (by omega)) (Zc (Zh (by rw [JB];simp;omega) (by decide)) (Zc (Zh (by simp;omega) (by decide)) (Zc (Zh (by simp;omega) (by decide)) ?_)))
  have e2:iop .sub .i64 (j:Int) 1=(j:Int)-1:=ZdI (by omega) (by omega)
  rw [e2]
  have e3:Zl ids++(E0++[[I r42.2.2.2.1,I r42.2.2.2.2.1,I r42.2.2.2.2.2]])=Zl (ids++[⟨r42.2.2.2.1,r42.2.2.2.2.1,r42.2.2.2.2.2⟩]):=by simp [Zl,idc]
  have:=ih k r42.2.1 r42.2.2.1 r42.2.1 (ids++[⟨r42.2.2.2.1,r42.2.2.2.2.1,r42.2.2.2.2.2⟩]) (tb++(E0++[[I b]])) (by omega) (by simp;omega) (by simp;omega)
  rw [← e3] at this
  exact this
theorem t44 {n:Nat} {x:LL} (h:KM n x) (hn:n≤900) (c:Cap) (z:Int):Tr (g44 x c.kind c.base c.bits c.rights c.width c.level c.device z):=by
 rw [Zol]
 refine Ze (t68 h hn) fun r9 _=>Zb (fun _=>Za trivial) fun _=>Ze ⟨_,s76 ..,trivial⟩ fun r10 (_:True)=>Zb (fun _=>Za trivial) fun _=>Zb (fun _=>Za trivial) fun _=>Ze (t77 _) fun r11 h11=>Zb (fun _=>Za trivial) fun hne=>?_
 refine Ze (t78 ..) fun r12 _=>Zb (fun _=>Za trivial) fun _=>Zc (by decide) ?_
 simp only [CQ,Decidable.not_not] at hne
 have e1:iop .sub .i64 r11 1=r11-1:=ZdI (by omega) (by omega)
 rw [e1] at hne
 obtain ⟨j,hj⟩:∃ j:Nat,r11=j:=⟨r11.toNat,by omega⟩
 have hc:c.level=(j:Int)-1:=by omega
 rw [hc]
 exact l44 h hn _ _ _ _ _ _ _ _ _ _ _ _ _ _ _ _ j ZZ _ _ _ [] [] (by have:ZZ=1208925819614629174706176:=rfl;omega) (by simp;omega) (by simp;omega)
theorem l85 {γ:Type} {P:LL→Prop} (rec0:List V→Option LL) {n:Nat} {x:LL} (h:KM n x) (hn:n≤900) (l:List Id) (hll:l.length < 2^63) (t:LL) (s:LL) (hs:s.length≤1000) {i:Nat} {a b d:Int} {ms:LL} (he:x[i]? = some [I a,I b,I d,AV.slice false 6 ms]) (hm:Zdw n ms)
  (a' b' d':Int) (nx:∀ s',(s'=s∨∃ ms',Zdw n ms'∧s'=s++(E0++[[I a',I b',I d',AV.slice false 6 ms']]))→Ret P (rec0 [.l x,.l (Zl l),.l t,.l s',.i (iop .add .i64 (i:Int) 1)])) :
  Ret P (ZgB rec0 ZZ x (Zl l) t s (i:Int) a' b' d' E0 0):=by
 have hl:ms.length < 1000:=by have:=hm.1;omega
 have row:∀ (k:(Int×Int×Int×LL)→Option LL),Zj x (i:Int) [.int .i64,.int .i64,.int .i64,.slice 6] k=k (a,b,d,ms):=fun k=>Jw (by omega) (by rw [Int.toNat_natCast];exact he) k
 refine Zw (F:=fun k (acc:LL) w=>ZgB rec0 k x (Zl l) t s (i:Int) a' b' d' acc w) ms.length (fun q acc=>acc.length≤q∧Zdw n acc) hl ?_ E0 ⟨Nat.le_refl _,Zjj n⟩
 rintro k q acc hq ⟨ha,hma⟩ next
 refine Zk (Zkf ..) (Zk (row _) (Zb (fun hlt=>?_) fun _=>?_))
 ·simp only [CQ] at hlt
  have nq:q < ms.length:=by omega
  refine Zk (row _) (Vg hm (by omega) hlt fun r18=>Zf (s84 l hll _ _ _) (Zb (fun _=>?_) fun _=>?_))
  ·refine Zc (Zh (by simp;omega) (by decide)) (Zk (row _) (Vg hm (by omega) hlt fun r29=>Zc (Zh (by simp;omega) (by decide)) ?_))
   rw [JU hq hl]
   refine next nq _ ⟨by simp;omega,?_,fun c hc=>?_⟩
   ·have:=hm.1;simp;omega
   ·simp only [List.mem_append,List.nil_append,List.mem_singleton] at hc
    rcases hc with hc | hc
    ·exact hma.2 c hc
    ·exact ⟨_,_,_,_,_,_,hc⟩
  ·rw [JU hq hl]
   exact next nq _ ⟨by omega,hma⟩
 ·refine Zb (fun _=>Zc (Zh (by simp;omega) (by decide)) (nx _ (.inr ⟨acc,hma,rfl⟩))) fun _=>nx _ (.inl rfl)
theorem t85 {n:Nat} {x:LL} (h:KM n x) (hn:n≤900) (l:List Id) (hll:l.length < 2^63) (t:List Int) (ht:t.length < 2^63):Ret (fun r=>KM n r) (g85 x (Zl l) (Zd t)):=by
 have hl:x.length < 1000:=by have:=h.1;omega
 rw [Zmy]
 refine Zw (F:=fun k (s:LL) w=>Zkc k x (Zl l) (Zd t) s w) x.length (fun i s=>s.length≤i∧KM n s) hl ?_ E0 ⟨Nat.le_refl _,Yw n⟩
 rintro k i s hi ⟨hs,hts⟩ next
 refine Zk (Zj8 ..) (Zb (fun hlt=>?_) fun _=>Za hts)
 simp only [CQ] at hlt
 have ni:i < x.length:=by omega
 obtain ⟨a,b,d,ms,he,hm⟩:=Zcb h (show (0:Int)≤(i:Int) by omega) hlt
 refine Zk (Jw (by omega) he _) (Zf (Zqr t ht a) (Zb (fun _=>?_) fun _=>Zk (Jw (by omega) he _) ?_))
 ·rw [JU hi hl];exact next ni _ ⟨by omega,hts⟩
 ·rw [Int.toNat_natCast] at he
  refine l85 (γ:=Unit) _ h hn l hll _ s (by omega) he hm a b d fun s' hs'=>?_
  rw [JU hi hl]
  refine next ni s' ?_
  rcases hs' with rfl | ⟨ms',hm',rfl⟩
  ·exact ⟨by omega,hts⟩
  ·refine ⟨by simp;omega,?_,fun c hc=>?_⟩
   ·have:=h.1;simp;omega
   ·simp only [List.mem_append,List.nil_append,List.mem_singleton] at hc
    rcases hc with hc | hc
    ·exact hts.2 c hc
    ·exact ⟨_,_,_,_,hc,hm'⟩
end Go.Proofs.YtapbmpfhogkkaaaGreat
end

section
namespace Go.Proofs.YtapbmpfhogkkaaaGreat
open Go Go.AM
set_option linter.unusedSimpArgs false
set_option linter.unusedVariables false
set_option maxRecDepth 100000
structure Mc where
 ws:List Int
 st:Int
 p:Int
 rs:List Reg
 os:LL
 l:List ZT
 tabs:LL
 mem:LL
 been:LL
 cr:List (Int×Int)
def crc (x:Int×Int):List AV:=[I x.1,I x.2]
@[reducible] def mT (m:Mc):LL×Int×Int×LL×LL×LL×LL×LL×LL×LL:=(Zd m.ws,m.st,m.p,m.rs.map JO,m.os,m.l.map Zm,m.tabs,m.mem,m.been,m.cr.map crc)
def atE (l:List ZT) (c s:Int):Option ZT:=l.find? (plE c s)
def atN:Option ZT→K3
 | some e => e.node
 | none => YG
theorem ZeZ {α:Type} (q:α→Bool):∀ l:List α,l[YJ q l]? = l.find? q
 | [] => rfl
 | a :: r => by
  unfold YJ
  rw [List.find?_cons]
  cases q a with
  | true => rfl
  | false => simpa using ZeZ q r
structure EM (w:Nat) (p:Int) (rs:List Reg) (j:Nat) (e:ZT):Prop where
 c0:0≤e.core
 c1:e.core < (w:Int)
 s0:0≤e.slot
 s1:e.slot < p
 ok:Jt e.node=true
 op:e.node.id.op≤(j:Int)
 pa:∀ i∈e.node.path,i.op≤(j:Int)
 rg:0≤JS rs e.node.cap.base e.node.cap.bits
structure LOk (w:Nat) (p:Int) (rs:List Reg) (j:Nat) (l:List ZT):Prop where
 ent:∀ e∈l,EM w p rs j e
 pl:l.Pairwise fun a b=>¬ (a.core=b.core∧a.slot=b.slot)
structure WfM (m:Mc) (j:Nat):Prop where
 w1:1≤m.ws.length
 w4:m.ws.length≤4
 ww:∀ w∈m.ws,w=32∨w=39
 p0:1≤m.p
 p1:m.p≤12
 r1:1≤m.rs.length
 r3:m.rs.length≤3
 mem:m.mem=List.replicate m.ws.length [B true]
 tl:m.tabs.length=m.ws.length
 tb:∀ c∈m.tabs,∃ t,c = [AV.slice false 4 t]∧KM j t
 lok:LOk m.ws.length m.p m.rs j m.l
 len:m.l.length≤8*j
 crl:m.cr.length≤j
 cro:∀ c∈m.cr,c.2≤(j:Int)
theorem EM.mono {w:Nat} {p:Int} {rs:List Reg} {j o:Nat} {e:ZT} (h:EM w p rs j e) (hjo:j≤o):EM w p rs o e:=⟨h.c0,h.c1,h.s0,h.s1,h.ok,by have:=h.op;omega,fun i hi=>by have:=h.pa i hi;omega,h.rg⟩
theorem LOk.mono {w:Nat} {p:Int} {rs:List Reg} {j o:Nat} {l:List ZT} (h:LOk w p rs j l) (hjo:j≤o):LOk w p rs o l:=⟨fun e he=>(h.ent e he).mono hjo,h.pl⟩
theorem WfM.mono {m:Mc} {j o:Nat} (h:WfM m j) (hjo:j≤o):WfM m o:=
 ⟨h.w1,h.w4,h.ww,h.p0,h.p1,h.r1,h.r3,h.mem,h.tl,fun c hc=>by obtain ⟨t,e,ht⟩:=h.tb c hc;exact ⟨t,e,Yh ht hjo⟩,h.lok.mono hjo,by have:=h.len;omega,by have:=h.crl;omega,fun c hc=>by have:=h.cro c hc;omega⟩
def Nx (m m':Mc) (j:Nat):Prop:=m'.ws=m.ws∧m'.p=m.p∧m'.rs=m.rs∧WfM m' j
theorem Nx.refl {m:Mc} {j o:Nat} (h:WfM m j) (hjo:j≤o):Nx m m o:=⟨rfl,rfl,rfl,h.mono hjo⟩
theorem LOk.few {w:Nat} {p:Int} {rs:List Reg} {j:Nat} {l:List ZT} (h:LOk w p rs j l) (hn:l.length≤1000):ZiN l:=⟨hn,fun e he=>by have:=(Jr (h.ent e he).ok).2.2.1;omega⟩
theorem Zjs {w:Nat} {p:Int} {rs:List Reg} {j:Nat} {l m:List ZT} {x:ZT} (h:LOk w p rs j l) (hx:EM w p rs j x) (ha:Zo4 l x m):LOk w p rs j m∧m.length=l.length+1:=by
 obtain ⟨i,hi,_,_,_,hpl,rfl⟩:=ha
 refine ⟨⟨fun e he=>?_,?_⟩,by simp;omega⟩
 ·simp only [List.mem_append,List.mem_singleton] at he
  rcases he with (he | rfl) | he
  ·exact h.ent e (List.mem_of_mem_take he)
  ·exact hx
  ·exact h.ent e (List.mem_of_mem_drop he)
 ·have hp:(l.take i++[x]++l.drop i).Perm (x::l):=by
   have:=List.perm_middle (a:=x) (l₁:=l.take i) (l₂:=l.drop i)
   rw [List.append_assoc,List.singleton_append]
   rw [List.take_append_drop] at this
   exact this
  refine (hp.pairwise_iff (fun h hc=>h ⟨hc.1.symm,hc.2.symm⟩)).2 (List.pairwise_cons.2 ⟨fun e he hc=>?_,h.pl⟩)
  rw [List.any_eq_false] at hpl
  exact hpl e he (by simp [plE,hc.1,hc.2])
theorem ZhI (m:Mc) {n:Nat} (hm:m.mem=List.replicate n [B true]):(List.length m.mem:Int)=(n:Int):=by rw [hm];simp
theorem s15 (m:Mc) {n:Nat} (hm:m.mem=List.replicate n [B true]) (k:Int):g15 (Zd m.ws) m.st m.p (m.rs.map JO) m.os (m.l.map Zm) m.tabs m.mem m.been (m.cr.map crc) k=some (decide (0≤k∧k < (n:Int)),mT m):=by
 have hl:=ZhI m hm
 rw [ZmR]
 refine Zz (fun h0=>?_) fun h0=>?_
 ·refine Zz (fun h1=>?_) fun h1=>?_
  ·simp only [CQ] at h0 h1
   rw [hl] at h1
   rw [ZC (by omega),ZC (by rw [hl];exact h1)]
   refine (YO (cs:=[B true]) (r:=true) _ (by omega) (by rw [hm,List.getElem?_replicate,if_pos (by omega)]) rfl).trans ?_
   rw [decide_eq_true (by omega)]
  ·simp only [CQ] at h0 h1
   rw [hl] at h1
   rw [decide_eq_false (by omega)]
 ·simp only [CQ] at h0
  rw [decide_eq_false (by omega)]
theorem s36 (m:Mc) (z:Int):g36 (Zd m.ws) m.st m.p (m.rs.map JO) m.os (m.l.map Zm) m.tabs m.mem m.been (m.cr.map crc) z=some (decide (0≤z∧z < m.p),mT m):=by
 rw [Zmi]
 refine Zz (fun h0=>?_) fun h0=>?_
 ·have e:cop .lss z m.p=decide (0≤z∧z < m.p):=by rw [Z6];simp only [CQ] at *; omega
  rw [e]
 ·simp only [CQ] at h0
  rw [decide_eq_false (by omega)]
theorem s41 (m:Mc) (hl:m.l.length < 2^63) (hp:∀ e∈m.l,e.node.path.length≤64) (c s:Int):g41 (Zd m.ws) m.st m.p (m.rs.map JO) m.os (m.l.map Zm) m.tabs m.mem m.been (m.cr.map crc) c s=some ((atN (atE m.l c s)).id.core,(atN (atE m.l c s)).id.op,(atN (atE m.l c s)).id.part,Zl (atN (atE m.l c s)).path,(atN (atE m.l c s)).cap.kind,(atN (atE m.l c s)).cap.base,(atN (atE m.l c s)).cap.bits,(atN (atE m.l c s)).cap.rights,(atN (atE m.l c s)).cap.width,(atN (atE m.l c s)).cap.level,(atN (atE m.l c s)).cap.device,(atE m.l c s).isSome,mT m):=by
 rw [Zmj,s67 m.l hl,Option.bind_some,show atE m.l c s=m.l[YJ (plE c s) m.l]? from (ZeZ _ _).symm]
 refine Zz (fun h=>?_) fun h=>?_
 ·have hn:¬ YJ (plE c s) m.l < m.l.length:=fun h'=>by rw [Vk h'] at h;simp only [CQ] at h;omega
  rw [List.getElem?_eq_none (by omega)]
  rfl
 ·have hlt:YJ (plE c s) m.l < m.l.length:=by
   rcases Nat.lt_or_ge (YJ (plE c s) m.l) m.l.length with h' | h'
   ·exact h'
   ·rw [ZaC,if_neg (by omega)] at h;exact absurd rfl h
  rw [List.getElem?_eq_getElem hlt,Vk hlt]
  refine (Zq hlt _).trans ?_
  simp only [KC,d2,d4,d8,d16]
  rw [s51 _ (hp _ (List.getElem_mem hlt)),Option.bind_some]
  rfl
def tkB (l:List ZT) (k d c:Int):Bool:=(List.range c.toNat).any fun i=>(atE l k (d+(i:Int))).isSome
theorem s38 (m:Mc) (hl:m.l.length < 2^63) (hp:∀ e∈m.l,e.node.path.length≤64) (k d c:Int) (hd:0≤d) (hd2:d < 2^40) (hc:c≤900):g38 (Zd m.ws) m.st m.p (m.rs.map JO) m.os (m.l.map Zm) m.tabs m.mem m.been (m.cr.map crc) k d c=some (tkB m.l k d c,mT m):=by
 have key:Ret (fun r=>r=(tkB m.l k d c,mT m)) (g38 (Zd m.ws) m.st m.p (m.rs.map JO) m.os (m.l.map Zm) m.tabs m.mem m.been (m.cr.map crc) k d c):=by
  rw [Znx]
  refine Zw (F:=fun q (_:Unit) z=>Zj7 q (Zd m.ws) m.st m.p (m.rs.map JO) m.os (m.l.map Zm) m.tabs m.mem m.been (m.cr.map crc) k d c z) c.toNat (fun i _=>∀ j:Nat,j < i→(atE m.l k (d+(j:Int))).isSome=false) (by omega) ?_ () (fun j h=>absurd h (Nat.not_lt_zero _))
  intro q i s hi hj next
  refine Zk (Zjl ..) (Zb (fun hlt=>?_) fun hge=>?_)
  ·simp only [CQ] at hlt
   have ea:iop .add .i64 d (i:Int)=d+i:=J5 (by omega) (by omega)
   rw [ea]
   refine Zf (s41 m hl hp k (d+i)) (Zb (fun h=>?_) fun h=>?_)
   ·have h':(atE m.l k (d+(i:Int))).isSome=true:=h
    refine Za ?_
    rw [show tkB m.l k d c=true from List.any_eq_true.2 ⟨i,List.mem_range.2 (by omega),h'⟩]
   ·have h':¬ (atE m.l k (d+(i:Int))).isSome=true:=h
    rw [JU hi (by omega)]
    refine next (by omega) () fun j hj'=>?_
    by_cases hji:j < i
    ·exact hj j hji
    ·have:j=i:=by omega
     subst this
     simpa using h'
  ·simp only [CQ] at hge
   have hic:i=c.toNat:=by omega
   subst hic
   refine Za ?_
   rw [show tkB m.l k d c=false from List.any_eq_false.2 fun x hx=>by rw [hj x (List.mem_range.1 hx)];simp]
 obtain ⟨r,e,rfl⟩:=key
 exact e
set_option maxHeartbeats 4000000 in
theorem s40 (m:Mc) {j:Nat} (h:LOk m.ws.length m.p m.rs j m.l) (k d:Int) (hk:0≤k∧k < (m.ws.length:Int)) (hd:0≤d) (ns:List K3) (hfit:d+(ns.length:Int)≤m.p) (hp:m.p≤800) (hn:∀ n∈ns,Jt n=true∧n.id.op≤(j:Int)∧(∀ i∈n.path,i.op≤(j:Int))∧0≤JS m.rs n.cap.base n.cap.bits)
  (hlen:m.l.length+ns.length≤900) (hcr:m.cr.length≤900) (hc:∀ c∈m.cr,c.2≤(j:Int)) :
  Ret (fun r=>∃ l' cr',r=mT { m with l:=l',cr:=cr' }∧LOk m.ws.length m.p m.rs j l'∧l'.length≤m.l.length+ns.length∧cr'.length≤m.cr.length+1∧∀ c∈cr',c.2≤(j:Int)) (g40 (Zd m.ws) m.st m.p (m.rs.map JO) m.os (m.l.map Zm) m.tabs m.mem m.been (m.cr.map crc) k d (ns.map Zer)):=by
 rw [Zmc]
 refine Zw (F:=fun q (s:LL) z=>Zi6 q (Zd m.ws) m.st m.p (m.rs.map JO) m.os s m.tabs m.mem m.been (m.cr.map crc) k d (ns.map Zer) z) ns.length (fun i s=>∃ l,s=l.map Zm∧LOk m.ws.length m.p m.rs j l∧l.length≤m.l.length+i) (by omega) ?_ (m.l.map Zm) ⟨m.l,rfl,h,by omega⟩
 rintro q i s hi ⟨l,rfl,hl,hll⟩ next
 refine Zk (ZjB ..) (Zb (fun hlt=>?_) fun hge=>?_)
 ·simp only [CQ,List.length_map] at hlt
  have ni:i < ns.length:=by omega
  refine Zk (ZbV ni _) ?_
  obtain ⟨n1,n2,n3,n4⟩:=hn _ (List.getElem_mem ni)
  have ea:iop .add .i64 d (i:Int)=d+i:=J5 (by omega) (by omega)
  rw [ea,JU hi (by omega)]
  refine Ze (s66 l (hl.few (by omega)) ⟨k,d+i,ns[i]⟩ (by have:=(Jr n1).2.2.1;show ns[i].path.length≤20;omega)) fun r hr=>?_
  rcases hr with rfl | ⟨m',hm',rfl⟩
  ·exact next ni _ ⟨[],rfl,⟨fun e he=>(by cases he),List.Pairwise.nil⟩,by simp⟩
  ·have d0:0≤d+(i:Int):=by omega
   have d1:d+(i:Int) < m.p:=by omega
   have hx:EM m.ws.length m.p m.rs j ⟨k,d+(i:Int),ns[i]⟩:=⟨hk.1,hk.2,d0,d1,n1,n2,n3,n4⟩
   obtain ⟨a1,a2⟩:=Zjs hl hx hm'
   exact next ni _ ⟨m',rfl,a1,by omega⟩
 ·simp only [CQ,List.length_map] at hge
  refine Zb (fun hgt=>?_) fun _=>Za ⟨l,m.cr,rfl,hl,by omega,by omega,hc⟩
  simp only [CQ,List.length_map] at hgt
  have n0:0 < ns.length:=by omega
  have n2:=(hn _ (List.getElem_mem n0)).2.1
  have e0:∀ {γ:Type} (f:ShsT ZdY→Option γ),Zj (ns.map Zer) 0 ZdY f=f (Zgn ns[0]):=fun f=>ZbV n0 f
  refine Zc (Zh (by simp;omega) (by decide)) (Zk (e0 _) (Zk (e0 _) (Zc (Zh (by simp;omega) (by decide)) (Za ⟨l,m.cr++[(ns[0].id.core,ns[0].id.op)],?_,hl,by omega,by simp,fun c hcc=>?_⟩))))
  ·simp [mT,crc,Zgn]
  ·rcases List.mem_append.1 hcc with hcc | hcc
   ·exact hc c hcc
   ·rw [List.mem_singleton] at hcc
    rw [hcc];exact n2
end Go.Proofs.YtapbmpfhogkkaaaGreat
end

section
namespace Go.Proofs.YtapbmpfhogkkaaaGreat
open Go Go.AM
set_option linter.unusedSimpArgs false
set_option linter.unusedVariables false
set_option maxRecDepth 100000
theorem ZjU {α:Type} (q:α→Bool) (l:List α):YJ q l < l.length↔∃ x∈l,q x=true:=by
 constructor
 ·intro h;exact ⟨_,List.getElem_mem h,ZaU q l h⟩
 ·rintro ⟨x,hx,hq⟩
  rcases Nat.lt_or_ge (YJ q l) l.length with h | h
  ·exact h
  ·obtain ⟨i,hi,rfl⟩:=List.getElem_of_mem hx
   rw [VU q l i hi (by omega)] at hq
   cases hq
theorem Zkk (rs:List Reg) (b n:Int):0≤JS rs b n↔∃ r∈rs,inB r.base r.bits b n=true:=by
 rw [show (∃ r∈rs,inB r.base r.bits b n=true)↔YJ (Zba b n) rs < rs.length from (ZjU (Zba b n) rs).symm]
 unfold JS ZaC
 split<;>omega
theorem ZhQ {a b c d e f:Int} (h1:inB a b c d=true) (h2:inB c d e f=true):inB a b e f=true:=by
 simp only [inB,Bool.and_eq_true,decide_eq_true_eq] at *
 exact ⟨⟨⟨h1.1.1.1,h2.1.1.2⟩,by omega⟩,by omega⟩
theorem Zls {rs:List Reg} {b n b' n':Int} (h:0≤JS rs b n) (hi:inB b n b' n'=true):0≤JS rs b' n':=by
 rw [Zkk] at *
 obtain ⟨r,hr,h⟩:=h
 exact ⟨r,hr,ZhQ h hi⟩
theorem Zja {a b:Nat} (h:a≤b):(2:Int)^a ∣ 2^b:=⟨2^(b-a),by rw [← Int.pow_add];congr 1;omega⟩
theorem Zgs {a b:Nat} (h:(2:Int)^a≤2^b):a≤b:=by
 rcases Nat.lt_or_ge b a with hlt | hge
 ·have h1:=Zhm (m:=b+1) (n:=a) hlt
  have h2:(2:Int)^(b+1)=2^b*2:=Int.pow_succ ..
  have h3:=Yv b
  omega
 ·exact hge
theorem Zf9 {c:Cap} (h:JT c=true):0≤c.rights∧c.rights≤7:=by
 simp only [JT,Bool.and_eq_true,decide_eq_true_eq] at h
 exact h.1.1.2
theorem Zj1 {c:Cap} {obj bits level width off cnt:Int} (h:JG c obj bits level width off cnt=0) :
  JT c=true∧c.kind=1∧iop .and .i64 c.rights 2≠0∧Y1 obj bits=true∧(obj=3→VN width level=true)∧1≤cnt∧cnt≤8∧0≤off∧(c.device=true→obj=1∨obj=2)∧
   off % 2^bits.toNat=0∧off≤2^c.bits.toNat-cnt*2^bits.toNat∧(obj=1→bits < c.bits):=by
 unfold JG at h
 split at h
 ·cases h
 split at h
 ·cases h
 split at h
 ·cases h
 split at h
 ·cases h
 split at h
 ·cases h
 rename_i h1 h2 h3 h4 h5
 refine ⟨?_,?_,h2,?_,?_,?_,?_,?_,?_,?_,?_,?_⟩ <;> grind
theorem Zf0 {c:Cap} {obj bits level width off cnt:Int} (h:JG c obj bits level width off cnt=0) {i:Nat} (hi:(i:Int) < cnt) :
  JT ⟨obj,c.base+off+i*2^bits.toNat,bits,c.rights,if obj=3 then width else 0,if obj=3 then level else 0,c.device⟩=true∧inB c.base c.bits (c.base+off+i*2^bits.toNat) bits=true:=by
 obtain ⟨h1,h2,h3,h4,h5,h6,h7,h8,h9,h10,h11,h12⟩:=Zj1 h
 obtain ⟨r1,r2,r3,r4,r5⟩:=V0 (Zcv h1)
 obtain ⟨b1,b2⟩:=ZeV h4
 have hp:=Yv bits.toNat
 have m0:0≤(i:Int)*2^bits.toNat:=Int.mul_nonneg (by omega) (by omega)
 have m1:((i:Int)+1)*2^bits.toNat≤cnt*2^bits.toNat:=Int.mul_le_mul_of_nonneg_right (by omega) (by omega)
 have m2:((i:Int)+1)*2^bits.toNat=i*2^bits.toNat+2^bits.toNat:=by rw [Int.add_mul,Int.one_mul]
 have m3:1*2^bits.toNat≤cnt*2^bits.toNat:=Int.mul_le_mul_of_nonneg_right (by omega) (by omega)
 have hle:bits.toNat≤c.bits.toNat:=Zgs (by omega)
 have hd1:(2:Int)^bits.toNat ∣ c.base:=Int.dvd_trans (Zja hle) (Int.dvd_of_emod_eq_zero r4)
 have hd:(2:Int)^bits.toNat ∣ c.base+off+i*2^bits.toNat:=Int.dvd_add (Int.dvd_add hd1 (Int.dvd_of_emod_eq_zero h10)) (Int.dvd_mul_left _ _)
 have hr:JN (c.base+off+i*2^bits.toNat) bits=true:=by
  simp only [JN,decide_eq_true_eq]
  exact ⟨b1,b2,by omega,Int.emod_eq_zero_of_dvd hd,by omega⟩
 have hend:Yr (c.base+off+i*2^bits.toNat) bits=c.base+off+(i+1)*2^bits.toNat:=by
  simp only [Yr,hr,if_true]
  omega
 have hrc:=Zcv h1
 refine ⟨?_,?_⟩
 ·simp only [JT,hr,h4,Bool.and_true,Bool.true_and,Bool.and_eq_true,decide_eq_true_eq,Bool.or_eq_true,Bool.not_eq_true']
  refine ⟨⟨Zf9 h1,?_⟩,?_⟩
  ·by_cases h3:obj=3
   ·simp only [if_pos h3]
    exact h5 h3
   ·simp only [if_neg h3]
    decide
  ·cases hdv:c.device
   ·exact .inl (.inl rfl)
   ·rcases h9 hdv with h | h
    ·exact .inl (.inr h)
    ·exact .inr h
 ·simp only [inB,hr,hrc,Bool.true_and,Bool.and_eq_true,decide_eq_true_eq,hend]
  have:Yr c.base c.bits=c.base+2^c.bits.toNat:=by simp only [Yr,hrc,if_true]
  omega
theorem Zia {c:Cap} {obj bits level width off cnt:Int} (h:JG c obj bits level width off cnt=0):∃ cs:List Cap,YR c obj bits level width off cnt=cs.map ZiO∧cs.length=cnt.toNat∧∀ x∈cs,JT x=true∧inB c.base c.bits x.base x.bits=true:=by
 refine ⟨(List.range cnt.toNat).map fun (j:Nat)=>⟨obj,c.base+off+(j:Int)*2^bits.toNat,bits,c.rights,if obj=3 then width else 0,if obj=3 then level else 0,c.device⟩,?_,by simp,fun x hx=>?_⟩
 ·unfold YR
  rw [if_pos h,List.map_map];rfl
 ·obtain ⟨j,hj,rfl⟩:=List.mem_map.1 hx
  exact Zf0 h (by have:=List.mem_range.1 hj;omega)
theorem Zo5 {s:K3} {i:Id} {c:Cap} (h:ZaS s i c):g82 s.id.core s.id.op s.id.part (Zl s.path) s.cap.kind s.cap.base s.cap.bits s.cap.rights s.cap.width s.cap.level s.cap.device i.core i.op i.part c.kind c.base c.bits c.rights c.width c.level c.device=some (i.core,i.op,i.part,Zl (s.path++[s.id]),c.kind,c.base,c.bits,c.rights,c.width,c.level,c.device,0):=by
 have hr:=h.room
 rw [Zof,s74 s (by omega),Option.bind_some]
 refine (if_neg (by rw [h.src];decide)).trans ?_
 rw [s97,Option.bind_some]
 refine (if_neg (by rw [h.id];decide)).trans ?_
 rw [s76,Option.bind_some]
 refine (if_neg (by rw [h.cap];decide)).trans ?_
 refine (if_neg (by rw [ZbP];exact h.ne)).trans ?_
 rw [s84 s.path (by omega),Option.bind_some]
 refine (if_neg (by rw [h.fresh];decide)).trans ?_
 refine (if_neg (by simp only [CQ,JB];omega)).trans ?_
 rw [s80 s.path (by omega),Option.bind_some,ZC (Zh (by rw [JB];simp;omega) (by omega))]
 simp [Zl,idc]
set_option maxHeartbeats 4000000 in
theorem Zdq {m:Mc} {j o:Nat} {s:K3} (hs:Jt s=true) (hso:s.id.op≤(j:Int)) (hsp:∀ i∈s.path,i.op≤(j:Int)) (hrg:0≤JS m.rs s.cap.base s.cap.bits) (hjo:j < o) (ho:o≤200) {k:Int} (hk:0≤k∧k < 32) {q:Nat} (hq:q < 8) {c:Cap} (hc:JT c=true) (hin:inB s.cap.base s.cap.bits c.base c.bits=true) (hl:s.path.length≠8) :
  ZaS s ⟨k,(o:Int),(q:Int)⟩ c∧(Jt (Yq s ⟨k,(o:Int),(q:Int)⟩ c)=true∧(Yq s ⟨k,(o:Int),(q:Int)⟩ c).id.op≤(o:Int)∧(∀ i∈(Yq s ⟨k,(o:Int),(q:Int)⟩ c).path,i.op≤(o:Int))∧0≤JS m.rs (Yq s ⟨k,(o:Int),(q:Int)⟩ c).cap.base (Yq s ⟨k,(o:Int),(q:Int)⟩ c).cap.bits):=by
 have h8:=(Jr hs).2.2.1
 have hC:ZaS s ⟨k,(o:Int),(q:Int)⟩ c:=by
  refine ⟨hs,?_,hc,fun e=>?_,?_,by omega⟩
  ·simp only [Zdx,decide_eq_true_eq];omega
  ·rw [← e] at hso;simp only at hso;omega
  ·rw [← Bool.not_eq_true,List.contains_iff_mem]
   intro hm
   have:=hsp _ hm
   simp only at this
   omega
 refine ⟨hC,Zi7 hC,by simp [Yq],fun i hi=>?_,Zls hrg hin⟩
 simp only [Yq,List.mem_append,List.mem_singleton] at hi
 rcases hi with hi | rfl
 ·have:=hsp i hi;omega
 ·omega
def TW (j:Nat) (x:LL):Prop:=∀ c∈x,∃ t,c = [AV.slice false 4 t]∧KM j t
theorem Zc5 {j o:Nat} (hjo:j≤o) {x:LL} (h:TW j x) {i:Nat} {t:LL} (ht:KM o t):TW o (Zp x i 0 [AV.slice false 4 t]):=by
 intro c hc
 obtain ⟨r,hr,hcr⟩:=ZgX hc
 obtain ⟨t',e,ht'⟩:=h r hr
 subst e
 rcases hcr with rfl | rfl
 ·exact ⟨t',rfl,Yh ht' hjo⟩
 ·exact ⟨t,rfl,ht⟩
theorem Wj {γ:Type} {P:γ→Prop} {j:Nat} {x:LL} (h:TW j x) {z:Int} (h0:0≤z) (hz:z < (x.length:Int)) {k:LL→Option γ} (hk:∀ t,KM j t→Ret P (k t)):Ret P (Zj x z [.slice 4] k):=by
 have hj:z.toNat < x.length:=by omega
 obtain ⟨t,e,ht⟩:=h _ (List.getElem_mem hj)
 exact Zk (YO (sh:=[.slice 4]) (cs:=x[z.toNat]) (r:=t) k h0 (List.getElem?_eq_getElem hj) (by rw [e];rfl)) (hk t ht)
theorem Nx.tabs {m:Mc} {j o:Nat} (h:WfM m j) (hjo:j≤o) {t:LL} (hl:t.length=m.tabs.length) (ht:TW o t):Nx m { m with tabs:=t } o:=
 have g:=h.mono hjo
 ⟨rfl,rfl,rfl,⟨g.w1,g.w4,g.ww,g.p0,g.p1,g.r1,g.r3,g.mem,by rw [← g.tl];exact hl,ht,g.lok,g.len,g.crl,g.cro⟩⟩
theorem LOk.sub {w:Nat} {p:Int} {rs:List Reg} {j:Nat} {l l':List ZT} (h:LOk w p rs j l) (hs:l'.Sublist l):LOk w p rs j l':=⟨fun e he=>h.ent e (hs.subset he),h.pl.sublist hs⟩
theorem s48 (l:List ZT) (h:ZiN l) (i:Id):Ret (fun r=>∃ l':List ZT,r.1=l'.map Zm∧l'.Sublist l) (g48 (l.map Zm) i.core i.op i.part):=by
 have hl:=h.len
 rw [Zmd,s64 l (by omega) i,Option.bind_some]
 refine Zb (fun _=>Za ⟨[],rfl,List.nil_sublist _⟩) fun hge=>?_
 have hlt:YJ (idE i) l < l.length:=by
  rcases Nat.lt_or_ge (YJ (idE i) l) l.length with h' | h'
  ·exact h'
  ·rw [ZaC,if_neg (by omega)] at hge;exact absurd rfl hge
 rw [Vk hlt]
 generalize YJ (idE i) l=q at hlt
 have ea:iop .add .i64 (q:Int) 1=((q+1:Nat):Int):=by rw [J5 (by omega) (by omega)];omega
 rw [ea,Int.toNat_natCast,Int.toNat_natCast,← List.map_take,← List.map_drop]
 refine Zc (by omega) (Zc (by rw [List.length_map];omega) (Zf (s22 _ (ZaD h (fun e he=>List.mem_of_mem_take he) (by simp;omega))) (Zc (by omega) (Zc (by rw [List.length_map];omega) (Zf (s22 _ (ZaD h (fun e he=>List.mem_of_mem_drop he) (by simp))) (Zc (Zh (by simp;omega) (by decide)) (Za ⟨l.take q++l.drop (q+1),by simp,?_⟩)))))))
 have:=(List.Sublist.refl (l.take q)).append (List.drop_sublist_drop_left l (show q≤q+1 by omega))
 rwa [List.take_append_drop] at this
theorem s49 (l:List ZT) (h:ZiN l) (i:Id):Ret (fun r=>∃ l':List ZT,r=l'.map Zm∧l'.Sublist l) (g49 (l.map Zm) i.core i.op i.part):=by
 have hl:=h.len
 rw [ZnD]
 refine VF (F:=fun k (acc:LL) z=>Zid k (l.map Zm) i.core i.op i.part acc z) (n:=l.length) (fun q acc=>∃ l':List ZT,acc=l'.map Zm∧l'.Sublist (l.take q)) (by omega) ?_ ?_ E0 ⟨[],rfl,List.nil_sublist _⟩
 ·rintro k q s hq ⟨l',rfl,hs⟩ next
  refine Zk (Ze9 ..) (Zb (fun _=>?_) fun hge=>by simp only [CQ,List.length_map] at hge;omega)
  have hp:=h.path l[q] (List.getElem_mem hq)
  have hlen:=hs.length_le
  rw [List.length_take] at hlen
  have st:(l.take q).Sublist (l.take (q+1)):=by rw [List.take_add_one];exact List.sublist_append_left _ _
  refine Zk (Zq hq _) (Zf (s84 l[q].node.path (by omega) _ _ _) ?_)
  rw [Wc hq (by omega)]
  refine Zb (fun _=>Zk (Zq hq _) (Zc (Zh (by simp;omega) (by decide)) (next _ ⟨l'++[l[q]],by simp [Zm,KC],?_⟩))) fun _=>next _ ⟨l',rfl,hs.trans st⟩
  rw [List.take_add_one,List.getElem?_eq_getElem hq]
  exact hs.append (List.Sublist.refl _)
 ·rintro k s ⟨l',rfl,hs⟩
  rw [List.take_length] at hs
  refine Zk (Ze9 ..) (Zb (fun hlt=>by simp only [CQ,List.length_map] at hlt;omega) fun _=>?_)
  exact Zf (s22 l' (ZaD h (fun e he=>hs.subset he) hs.length_le)) (Za ⟨l',rfl,hs⟩)
theorem s50 (m:Mc) {j:Nat} (hj:j≤800) (ht:TW j m.tabs) (hl:m.l.length≤900) (htl:m.tabs.length≤100) :
  Ret (fun r=>∃ t,r=mT { m with tabs:=t }∧t.length=m.tabs.length∧TW j t) (g50 (Zd m.ws) m.st m.p (m.rs.map JO) m.os (m.l.map Zm) m.tabs m.mem m.been (m.cr.map crc)):=by
 rw [ZnL]
 refine Zw (F:=fun q (t:LL) z=>ZkW q (Zd m.ws) m.st m.p (m.rs.map JO) m.os (m.l.map Zm) t m.mem m.been (m.cr.map crc) z) m.tabs.length (fun _ t=>t.length=m.tabs.length∧TW j t) (by omega) ?_ m.tabs ⟨rfl,ht⟩
 rintro q i t hi ⟨h1,h2⟩ next
 refine Zk (Zj5 ..) (Zb (fun hlt=>?_) fun _=>Za ⟨t,rfl,h1,h2⟩)
 simp only [CQ] at hlt
 have ni:i < m.tabs.length:=by omega
 refine Zw (F:=fun q' (s:LL×LL) z=>Zgg (F50.lp [0] 0 r0 q) q' (Zd m.ws) m.st m.p (m.rs.map JO) m.os (m.l.map Zm) t m.mem m.been (m.cr.map crc) (i:Int) s.1 s.2 z) m.l.length (fun a s=>∃ (live:List Id) (tb:List Int),s=(Zl live,Zd tb)∧live.length≤a∧tb.length≤a) (by omega) ?_ (E0,E0) ⟨[],[],rfl,Nat.le_refl _,Nat.le_refl _⟩
 rintro q' a s ha ⟨live,tb,rfl,l1,l2⟩ next'
 refine Zk (Zkj ..) (Zb (fun hlt2=>?_) fun _=>?_)
 ·simp only [CQ,List.length_map] at hlt2
  have na:a < m.l.length:=by omega
  refine Zk (Zq na _) (Zb (fun _=>Zk (Zq na _) (Zc (Zh (by rw [JB];simp;omega) (by decide)) (Zk (Zq na _) ?_))) fun _=>?_)
  ·have e3:Zl live++(E0++[[I m.l[a].node.id.core,I m.l[a].node.id.op,I m.l[a].node.id.part]])=Zl (live++[m.l[a].node.id]):=by simp [Zl,idc]
   refine Zb (fun _=>Zk (Zq na _) (Zc (Zh (by rw [Z2];simp;omega) (by decide)) ?_)) fun _=>?_
   ·rw [JU ha (by omega)]
    have e4:Zd tb++(E0++[[I m.l[a].node.cap.base]])=Zd (tb++[m.l[a].node.cap.base]):=by simp [Zd,Zk0]
    exact next' na (_,_) ⟨live++[m.l[a].node.id],tb++[m.l[a].node.cap.base],Prod.ext e3 e4,by simp;omega,by simp;omega⟩
   ·rw [JU ha (by omega)]
    exact next' na (_,_) ⟨live++[m.l[a].node.id],tb,Prod.ext e3 rfl,by simp;omega,by omega⟩
  ·rw [JU ha (by omega)]
   exact next' na (_,_) ⟨live,tb,rfl,by omega,by omega⟩
 ·refine Zc (by omega) (Zc (by omega) (Wj h2 (by omega) (by omega) fun x hx=>Ze (t85 hx (by omega) live (by omega) tb (by omega)) fun r15 h15=>Zc (by omega) (Zc (by omega) (Zc (by omega) (Zc (by omega) ?_)))))
  rw [JU hi (by omega),Int.toNat_natCast]
  exact next ni _ ⟨by rw [Vp];exact h1,Zc5 (Nat.le_refl _) h2 h15⟩
end Go.Proofs.YtapbmpfhogkkaaaGreat
end

section
namespace Go.Proofs.YtapbmpfhogkkaaaGreat
open Go Go.AM
set_option linter.unusedSimpArgs false
set_option linter.unusedVariables false
set_option maxRecDepth 100000
theorem Zob (a b:Int):iop .and .i64 a b=(BitVec.ofInt 64 a&&& BitVec.ofInt 64 b).toInt:=by
 show IntKind.wrap .i64 (((BitVec.ofInt 64 a&&& BitVec.ofInt 64 b).toNat:Nat):Int)=_
 generalize BitVec.ofInt 64 a&&& BitVec.ofInt 64 b=x
 have:=x.isLt
 rw [BitVec.toInt_eq_toNat_cond]
 simp only [IntKind.wrap]
 have hs:IntKind.i64.signed=true:=rfl
 have hb:IntKind.i64.bits=64:=rfl
 have h64:(2:Nat)^64=18446744073709551616:=by decide
 have h65:(2:Int)^64=18446744073709551616:=by decide
 have h63:(2:Int)^(64-1)=9223372036854775808:=by decide
 simp only [hs,hb,if_true,Bool.true_and,decide_eq_true_eq,h65,h63]
 rw [h64] at this ⊢
 by_cases hx:2*x.toNat < 18446744073709551616
 ·rw [if_pos hx];omega
 ·rw [if_neg hx];omega
theorem Zlw {a:Int} (b:Int) (h0:0≤a) (h1:a≤7):0≤iop .and .i64 a b∧iop .and .i64 a b≤7:=by
 have h:=Zob a b
 have hle:(BitVec.ofInt 64 a&&& BitVec.ofInt 64 b).toNat≤(BitVec.ofInt 64 a).toNat:=by
  rw [BitVec.toNat_and]
  exact Nat.and_le_left
 have ha:(BitVec.ofInt 64 a).toNat≤7:=by
  rw [BitVec.toNat_ofInt]
  omega
 rw [h,BitVec.toInt_eq_toNat_cond]
 split<;>omega
theorem Zhp {c:Cap} (h:JT c=true):0≤c.rights∧c.rights≤7:=by
 simp only [JT,Bool.and_eq_true,decide_eq_true_eq] at h
 exact h.1.1.2
theorem Zk7 {c:Cap} (h:JT c=true) (m:Int):JT { c with rights:=iop .and .i64 c.rights m } = true:=by
 obtain ⟨h1,h2⟩:=Zhp h
 have:=Zlw m h1 h2
 simp only [JT,Bool.and_eq_true,decide_eq_true_eq] at h ⊢
 exact ⟨⟨⟨h.1.1.1,this⟩,h.1.2⟩,h.2⟩
theorem WfM.paths {m:Mc} {j:Nat} (h:WfM m j):∀ e∈m.l,e.node.path.length≤64:=fun e he=>by have:=(Jr (h.lok.ent e he).ok).2.2.1;omega
theorem ZhV {m:Mc} {j:Nat} (h:WfM m j) (c s:Int):(atN (atE m.l c s)).path.length < 2^63:=by
 cases ha:atE m.l c s with
 | none => exact (by decide : (0 : Nat) < 2 ^ 63)
 | some e => have := h.paths e (List.mem_of_find?_eq_some ha); show e.node.path.length < 2 ^ 63; omega
theorem Zpr {l:List Id} (h:cop .eql (List.length (Zl l):Int) 8=true):l.length=8:=by
 simp only [CQ,JB] at h
 omega
theorem Zde {p:Prop} {_:Decidable p} (h:(!(decide p))=true):¬ p:=by simpa using h
theorem ZcB {p:Prop} {_:Decidable p} (h:¬ (!(decide p))=true):p:=by simpa using h
theorem ZjM {b n:Int} (h:JN b n=true):inB b n b n=true:=by simp [inB,h]
theorem Nx.ins {m:Mc} {j o:Nat} (h:WfM m j) (hjo:j < o) {l:List ZT} {cr:List (Int×Int)} (hl:LOk m.ws.length m.p m.rs o l) (hn:l.length≤m.l.length+8) (hc:cr.length≤m.cr.length+1) (ho:∀ c∈cr,c.2≤(o:Int)):Nx m { m with l:=l,cr:=cr } o:=
 have g:=h.mono (Nat.le_of_lt hjo)
 ⟨rfl,rfl,rfl,⟨g.w1,g.w4,g.ww,g.p0,g.p1,g.r1,g.r3,g.mem,g.tl,g.tb,hl,by have:=h.len;show l.length≤8*o;omega,by have:=h.crl;show cr.length≤o;omega,ho⟩⟩
theorem Nx.syn {m:Mc} {j o:Nat} (h:WfM m j) (hjo:j≤o) {l:List ZT} {t:LL} (hs:l.Sublist m.l) (htl:t.length=m.tabs.length) (ht:TW j t):Nx m { m with l:=l,tabs:=t } o:=
 have g:=h.mono hjo
 ⟨rfl,rfl,rfl,⟨g.w1,g.w4,g.ww,g.p0,g.p1,g.r1,g.r3,g.mem,by rw [← g.tl];exact htl,fun c hc=>(by obtain ⟨x,e,hx⟩:=ht c hc;exact ⟨x,e,Yh hx hjo⟩),g.lok.sub hs,by have:=h.len;have:=hs.length_le;show l.length≤8*o;omega,g.crl,g.cro⟩⟩
def Ze1 (m:Mc) (k:Int) (c:Call) (e:Int):Prop:=
 (¬ (0≤c.dest∧c.dest < m.p∧6≤c.bits∧c.bits≤40)∧e=1)∨
 ((0≤c.dest∧c.dest < m.p∧6≤c.bits∧c.bits≤40)∧((JN c.offset c.bits=false∧e=6)∨(JN c.offset c.bits=true∧((JS m.rs c.offset c.bits < 0∧e=11)∨(0≤JS m.rs c.offset c.bits∧((tkB m.l k c.dest 1=true∧e=3)∨(tkB m.l k c.dest 1=false∧(e=7∨e=0))))))))
set_option maxHeartbeats 4000000 in
theorem s16 (m:Mc) {j o:Nat} (h:WfM m j) (hjo:j < o) (ho:o≤100) (k:Int) (hk:0≤k∧k < (m.ws.length:Int)) (c:Call):Ret (fun r=>∃ e m',r=(e,mT m')∧Nx m m' o∧Ze1 m k c e) (g16 (Zd m.ws) m.st m.p (m.rs.map JO) m.os (m.l.map Zm) m.tabs m.mem m.been (m.cr.map crc) k (o:Int) c.kind c.slot c.dest c.core c.mask c.object c.bits c.level c.offset c.count c.index c.addr):=by
 have hl:m.l.length < 2^63:=by have:=h.len;omega
 have hl8:m.l.length≤800:=by have:=h.len;omega
 have hw4:=h.w4
 have hp1:=h.p1
 have hr3:=h.r3
 have nx:=Nx.refl h (Nat.le_of_lt hjo)
 have hk':k < (m.tabs.length:Int):=by rw [h.tl];exact hk.2
 rw [Znn,s36,Option.bind_some]
 refine Zb (fun h1=>Za ⟨1,m,rfl,nx,.inl ⟨fun hc=>?_,rfl⟩⟩) fun h1=>?_
 ·simp at h1
  omega
 have d:0≤c.dest∧c.dest < m.p:=by simpa using h1
 refine Zb (fun h2=>Za ⟨1,m,rfl,nx,.inl ⟨fun hc=>?_,rfl⟩⟩) fun h2=>Zb (fun h3=>Za ⟨1,m,rfl,nx,.inl ⟨fun hc=>?_,rfl⟩⟩) fun h3=>?_
 ·simp only [CQ] at h2;omega
 ·simp only [CQ] at h3;omega
 simp only [CQ] at h2 h3
 have hb:0≤c.dest∧c.dest < m.p∧6≤c.bits∧c.bits≤40:=⟨d.1,d.2,by omega,by omega⟩
 refine Zf (s33 c.offset c.bits) (Zb (fun h4=>Za ⟨6,m,rfl,nx,.inr ⟨hb,.inl ⟨by simpa using h4,rfl⟩⟩⟩) fun h4=>?_)
 have hr:JN c.offset c.bits=true:=by simpa using h4
 refine Zf (s37 m.rs (by omega) c.offset c.bits) (Zb (fun h5=>Za ⟨11,m,rfl,nx,.inr ⟨hb,.inr ⟨hr,.inl ⟨by simpa only [CQ] using h5,rfl⟩⟩⟩⟩) fun h5=>?_)
 simp only [CQ] at h5
 have hg:0≤JS m.rs c.offset c.bits:=by omega
 refine Zf (s38 m hl h.paths k c.dest 1 d.1 (by omega) (by decide)) (Zb (fun h6=>Za ⟨3,m,rfl,nx,.inr ⟨hb,.inr ⟨hr,.inr ⟨hg,.inl ⟨h6,rfl⟩⟩⟩⟩⟩) fun h6=>?_)
 have ht:tkB m.l k c.dest 1=false:=Bool.eq_false_iff.2 h6
 refine WI hg (by have:=Znd m.rs _ _ hg;omega) fun r=>?_
 refine Ze (s39 m.l hl ⟨0,0,0⟩ [⟨1,c.offset,c.bits,7,0,0,r.2.2⟩] (by simp)) fun r51 _=>Zb (fun _=>Za ⟨7,m,rfl,nx,.inr ⟨hb,.inr ⟨hr,.inr ⟨hg,.inr ⟨ht,.inl rfl⟩⟩⟩⟩⟩) fun _=>?_
 have hcap:JT ⟨1,c.offset,c.bits,7,0,0,r.2.2⟩=true:=by simp [JT,Y1,hr];omega
 have hn:Jt ⟨⟨k,(o:Int),0⟩,[],⟨1,c.offset,c.bits,7,0,0,r.2.2⟩⟩=true:=Zlz _ _ (by simp only [Zdx,decide_eq_true_eq];omega) hcap
 refine Ze (s40 m (j:=o) (h.lok.mono (Nat.le_of_lt hjo)) k c.dest hk d.1 [⟨⟨k,(o:Int),0⟩,[],⟨1,c.offset,c.bits,7,0,0,r.2.2⟩⟩] (by simp;omega) (by omega) (fun n hn'=>?_) (by simp;omega) (by have:=h.crl;omega) fun x hx=>by have:=h.cro x hx;omega) fun r52 hr52=>?_
 ·rw [List.mem_singleton] at hn'
  subst hn'
  exact ⟨hn,Int.le_refl _,fun i hi=>(by cases hi),hg⟩
 obtain ⟨l',cr',rfl,a1,a2,a3,a4⟩:=hr52
 exact Za ⟨0,_,rfl,Nx.ins h hjo a1 (by simp at a2;omega) a3 a4,.inr ⟨hb,.inr ⟨hr,.inr ⟨hg,.inr ⟨ht,.inr rfl⟩⟩⟩⟩⟩
theorem s17 (m:Mc) {j o:Nat} (h:WfM m j) (hjo:j < o) (ho:o≤100) (k:Int) (hk:0≤k∧k < (m.ws.length:Int)) (c:Call):Ret (fun r=>∃ e a1 a2 a3 a4 a5 a6 b a8,r=(e,a1,a2,a3,a4,a5,a6,b,a8,mT m)) (g17 (Zd m.ws) m.st m.p (m.rs.map JO) m.os (m.l.map Zm) m.tabs m.mem m.been (m.cr.map crc) k c.kind c.slot c.dest c.core c.mask c.object c.bits c.level c.offset c.count c.index c.addr):=by
 have hl:m.l.length < 2^63:=by have:=h.len;omega
 have hl8:m.l.length≤800:=by have:=h.len;omega
 have hw4:=h.w4
 have hp1:=h.p1
 have hr3:=h.r3
 have nx:=Nx.refl h (Nat.le_of_lt hjo)
 have hk':k < (m.tabs.length:Int):=by rw [h.tl];exact hk.2
 rw [Znz,s36,Option.bind_some]
 exact Zb (fun _=>Za ⟨_,_,_,_,_,_,_,_,_,rfl⟩) fun _=>Zf (s41 m hl h.paths k c.slot) (Zb (fun _=>Za ⟨_,_,_,_,_,_,_,_,_,rfl⟩) fun _=>Za ⟨_,_,_,_,_,_,_,_,_,rfl⟩)
set_option maxHeartbeats 4000000 in
theorem s18 (m:Mc) {j o:Nat} (h:WfM m j) (hjo:j < o) (ho:o≤100) (k:Int) (hk:0≤k∧k < (m.ws.length:Int)) (c:Call):Ret (fun r=>∃ e m',r=(e,mT m')∧Nx m m' o) (g18 (Zd m.ws) m.st m.p (m.rs.map JO) m.os (m.l.map Zm) m.tabs m.mem m.been (m.cr.map crc) k c.kind c.slot c.dest c.core c.mask c.object c.bits c.level c.offset c.count c.index c.addr):=by
 have hl:m.l.length < 2^63:=by have:=h.len;omega
 have hl8:m.l.length≤800:=by have:=h.len;omega
 have hw4:=h.w4
 have hp1:=h.p1
 have hr3:=h.r3
 have nx:=Nx.refl h (Nat.le_of_lt hjo)
 have hk':k < (m.tabs.length:Int):=by rw [h.tl];exact hk.2
 rw [Znl,s36,Option.bind_some]
 refine Zb (fun _=>Za ⟨1,m,rfl,nx⟩) fun _=>Zb (fun _=>?_) fun _=>?_
 ·refine Zf (s36 m c.dest) (Zb (fun _=>Za ⟨1,m,rfl,nx⟩) fun _=>Zb (fun _=>Za ⟨1,m,rfl,nx⟩) fun _=>Zb (fun _=>Za ⟨1,m,rfl,nx⟩) fun _=>?_)
  refine Zf (s41 m hl h.paths k c.slot) (Zb (fun _=>Za ⟨2,m,rfl,nx⟩) fun _=>Zb (fun _=>?_) fun _=>?_)
  ·refine Zc hk.1 (Zc hk' (Wj h.tb hk.1 hk' fun t ht=>Ze (t42 ht (by omega) (atN (atE m.l k c.slot)).cap c.index) fun r68 h68=>Zb (fun _=>Zc hk.1 (Zc hk' (Zc hk.1 (Zc hk' (Za ⟨_,{ m with tabs:=Zp m.tabs k.toNat 0 [AV.slice false 4 r68.1] },rfl,Nx.tabs h (Nat.le_of_lt hjo) (Vp ..) (Zc5 (Nat.le_of_lt hjo) h.tb (Yh h68 (Nat.le_of_lt hjo)))⟩))))) fun _=>Za ⟨_,m,rfl,nx⟩))
  ·refine Zf (s41 m hl h.paths k c.dest) (Zb (fun _=>Za ⟨2,m,rfl,nx⟩) fun _=>?_)
   refine Zc hk.1 (Zc hk' (Wj h.tb hk.1 hk' fun t ht=>Ze (t43 ht (by omega) (atN (atE m.l k c.slot)).cap c.index (atN (atE m.l k c.dest)) (ZhV h k c.dest) c.mask) fun r90 h90=>Zb (fun _=>Zc hk.1 (Zc hk' (Zc hk.1 (Zc hk' (Za ⟨_,{ m with tabs:=Zp m.tabs k.toNat 0 [AV.slice false 4 r90.1] },rfl,Nx.tabs h (Nat.le_of_lt hjo) (Vp ..) (Zc5 (Nat.le_of_lt hjo) h.tb (Yh h90 (by omega)))⟩))))) fun _=>Za ⟨_,m,rfl,nx⟩))
 ·refine Zf (s41 m hl h.paths k c.slot) (Zb (fun _=>Za ⟨2,m,rfl,nx⟩) fun _=>Zb (fun _=>?_) fun _=>?_)
  ·refine Zc hk.1 (Zc hk' (Wj h.tb hk.1 hk' fun t ht=>Ze (t42 ht (by omega) (atN (atE m.l k c.slot)).cap c.index) fun r68 h68=>Zb (fun _=>Zc hk.1 (Zc hk' (Zc hk.1 (Zc hk' (Za ⟨_,{ m with tabs:=Zp m.tabs k.toNat 0 [AV.slice false 4 r68.1] },rfl,Nx.tabs h (Nat.le_of_lt hjo) (Vp ..) (Zc5 (Nat.le_of_lt hjo) h.tb (Yh h68 (Nat.le_of_lt hjo)))⟩))))) fun _=>Za ⟨_,m,rfl,nx⟩))
  ·refine Zf (s41 m hl h.paths k c.dest) (Zb (fun _=>Za ⟨2,m,rfl,nx⟩) fun _=>?_)
   refine Zc hk.1 (Zc hk' (Wj h.tb hk.1 hk' fun t ht=>Ze (t43 ht (by omega) (atN (atE m.l k c.slot)).cap c.index (atN (atE m.l k c.dest)) (ZhV h k c.dest) c.mask) fun r90 h90=>Zb (fun _=>Zc hk.1 (Zc hk' (Zc hk.1 (Zc hk' (Za ⟨_,{ m with tabs:=Zp m.tabs k.toNat 0 [AV.slice false 4 r90.1] },rfl,Nx.tabs h (Nat.le_of_lt hjo) (Vp ..) (Zc5 (Nat.le_of_lt hjo) h.tb (Yh h90 (by omega)))⟩))))) fun _=>Za ⟨_,m,rfl,nx⟩))
theorem s19 (m:Mc) {j o:Nat} (h:WfM m j) (hjo:j < o) (ho:o≤100) (k:Int) (hk:0≤k∧k < (m.ws.length:Int)) (c:Call):Ret (fun r=>∃ e a1 a2 a3 a4 a5 a6 b a8,r=(e,a1,a2,a3,a4,a5,a6,b,a8,mT m)) (g19 (Zd m.ws) m.st m.p (m.rs.map JO) m.os (m.l.map Zm) m.tabs m.mem m.been (m.cr.map crc) k c.kind c.slot c.dest c.core c.mask c.object c.bits c.level c.offset c.count c.index c.addr):=by
 have hl:m.l.length < 2^63:=by have:=h.len;omega
 have hl8:m.l.length≤800:=by have:=h.len;omega
 have hw4:=h.w4
 have hp1:=h.p1
 have hr3:=h.r3
 have nx:=Nx.refl h (Nat.le_of_lt hjo)
 have hk':k < (m.tabs.length:Int):=by rw [h.tl];exact hk.2
 have z:∀ (e a1 a2 a3 a4 a5 a6:Int) (b:Bool) (a8:Int),Ret (fun r=>∃ e a1 a2 a3 a4 a5 a6 b a8,r=(e,a1,a2,a3,a4,a5,a6,b,a8,mT m)) (some (e,a1,a2,a3,a4,a5,a6,b,a8,mT m)):=fun e a1 a2 a3 a4 a5 a6 b a8=>Za ⟨e,a1,a2,a3,a4,a5,a6,b,a8,rfl⟩
 rw [ZnA,s36,Option.bind_some]
 refine Zb (fun _=>z ..) fun _=>Zb (fun _=>z ..) fun _=>Zb (fun _=>z ..) fun _=>Zf (s41 m hl h.paths k c.slot) (Zb (fun _=>z ..) fun _=>?_)
 refine Zc hk.1 (Zc hk' (Wj h.tb hk.1 hk' fun t ht=>Ze (t44 ht (by omega) (atN (atE m.l k c.slot)).cap c.addr) fun r57 _=>Zb (fun _=>z ..) fun _=>Zb (fun _=>z ..) fun _=>Zc (by decide) (z ..)))
def wOf (m:Mc) (k:Int):Int:=m.ws[k.toNat]?.getD 0
def Zhu (m:Mc) (k:Int) (c:Call) (n:K3) (e:Int):Prop:=
 (JG n.cap c.object c.bits c.level (wOf m k) c.offset c.count≠0∧e=JG n.cap c.object c.bits c.level (wOf m k) c.offset c.count)∨
 (JG n.cap c.object c.bits c.level (wOf m k) c.offset c.count=0∧((tkB m.l k c.dest c.count=true∧e=3)∨(tkB m.l k c.dest c.count=false∧((n.path.length=8∧e=9)∨(n.path.length≠8∧(e=7∨e=0))))))
def ZkJ (m:Mc) (k:Int) (c:Call) (n:K3) (e:Int):Prop:=
 (tkB m.l k c.dest 1=true∧e=3)∨(tkB m.l k c.dest 1=false∧((n.path.length=8∧e=9)∨(n.path.length≠8∧e=0)))
def ZkQ (m:Mc) (c:Call) (n:K3) (e:Int):Prop:=
 ((n.cap.kind=3∨n.cap.kind=5∨n.cap.kind=6)∧e=5)∨(¬ (n.cap.kind=3∨n.cap.kind=5∨n.cap.kind=6)∧((iop .and .i64 n.cap.rights 4=0∧e=8)∨(iop .and .i64 n.cap.rights 4≠0∧((n.path.length=8∧e=9)∨(n.path.length≠8∧
  ((¬ (0≤c.core∧c.core < (m.ws.length:Int))∧e=10)∨((0≤c.core∧c.core < (m.ws.length:Int))∧(e=3∨e=0))))))))
theorem s45 (m:Mc) {j o:Nat} (h:WfM m j) (hjo:j < o) (ho:o≤100) (k:Int) (hk:0≤k∧k < (m.ws.length:Int)) (c:Call) {s:ZT} (he:EM m.ws.length m.p m.rs j s) (hc:1≤c.count∧c.count≤8∧0≤c.dest∧c.dest≤m.p-c.count) :
  Ret (fun r=>∃ e m',r=(e,mT m')∧Nx m m' o∧Zhu m k c s.node e) (g45 (Zd m.ws) m.st m.p (m.rs.map JO) m.os (m.l.map Zm) m.tabs m.mem m.been (m.cr.map crc) k (o:Int) s.node.id.core s.node.id.op s.node.id.part (Zl s.node.path) s.node.cap.kind s.node.cap.base s.node.cap.bits s.node.cap.rights s.node.cap.width s.node.cap.level s.node.cap.device c.kind c.slot c.dest c.core c.mask c.object c.bits c.level c.offset c.count c.index c.addr):=by
 have hl:m.l.length < 2^63:=by have:=h.len;omega
 have hl8:m.l.length≤800:=by have:=h.len;omega
 have hw4:=h.w4
 have hp1:=h.p1
 have hr3:=h.r3
 have nx:=Nx.refl h (Nat.le_of_lt hjo)
 have hk':k < (m.tabs.length:Int):=by rw [h.tl];exact hk.2
 have f1:k < 32:=by omega
 have f2:o≤200:=by omega
 have f3:m.p≤800:=by omega
 have f4:m.cr.length≤900:=by have:=h.crl;omega
 have f5:∀ x∈m.cr,x.2≤(o:Int):=fun x hx=>by have:=h.cro x hx;omega
 have f6:m.l.length+8≤900:=by omega
 have f6':m.l.length+1≤900:=by omega
 have f9:c.count.toNat≤8:=by omega
 have f10:c.dest+((c.count.toNat:Nat):Int)≤m.p:=by omega
 have f11:c.dest < 2^40:=by omega
 have f12:c.count≤900:=by omega
 have kt:k.toNat < m.ws.length:=by omega
 have hwe:wOf m k=m.ws[k.toNat]:=by simp [wOf,kt]
 rw [Zng]
 refine JP hk.1 kt ?_
 rw [← hwe]
 refine Zf (s81 ..) (Zb (fun h1=>Za ⟨_,m,rfl,nx,.inl ⟨by simpa only [CQ] using h1,rfl⟩⟩) fun h1=>?_)
 have hz:JG s.node.cap c.object c.bits c.level (wOf m k) c.offset c.count=0:=by simpa only [CQ,Decidable.not_not] using h1
 obtain ⟨cs,hcs,hcl,hca⟩:=Zia hz
 have g8:cs.length≤8:=by rw [hcl];exact f9
 have g9:cs.length < 1000:=Nat.lt_of_le_of_lt g8 (by decide)
 refine Zf (s38 m hl h.paths k c.dest c.count hc.2.2.1 f11 f12) (Zb (fun h2=>Za ⟨3,m,rfl,nx,.inr ⟨hz,.inl ⟨h2,rfl⟩⟩⟩) fun h2=>?_)
 have ht:tkB m.l k c.dest c.count=false:=Bool.eq_false_iff.2 h2
 refine Zb (fun h3=>Za ⟨9,m,rfl,nx,.inr ⟨hz,.inr ⟨ht,.inl ⟨Zpr h3,rfl⟩⟩⟩⟩) fun h3=>?_
 have hn8:s.node.path.length≠8:=fun e=>h3 (by simp only [CQ,JB,e];rfl)
 have h39:=s39 m.l hl s.node.id cs (Nat.lt_trans g9 (by decide))
 rw [← hcs] at h39
 refine Ze h39 fun r49 _=>Zb (fun _=>Za ⟨7,m,rfl,nx,.inr ⟨hz,.inr ⟨ht,.inr ⟨hn8,.inl rfl⟩⟩⟩⟩) fun _=>?_
 have key:Ret (fun r=>∃ e m',r=(e,mT m')∧Nx m m' o∧Zhu m k c s.node e) (ZhH ZZ (Zd m.ws) m.st m.p (m.rs.map JO) m.os (m.l.map Zm) m.tabs m.mem m.been (m.cr.map crc) k (o:Int) s.node.id.core s.node.id.op s.node.id.part (Zl s.node.path) s.node.cap.kind s.node.cap.base s.node.cap.bits s.node.cap.rights s.node.cap.width s.node.cap.level s.node.cap.device c.kind c.slot c.dest c.core c.mask c.object c.bits c.level c.offset c.count c.index c.addr (cs.map ZiO) E0 0):=by
  refine Zw (F:=fun q (acc:LL) z=>ZhH q (Zd m.ws) m.st m.p (m.rs.map JO) m.os (m.l.map Zm) m.tabs m.mem m.been (m.cr.map crc) k (o:Int) s.node.id.core s.node.id.op s.node.id.part (Zl s.node.path) s.node.cap.kind s.node.cap.base s.node.cap.bits s.node.cap.rights s.node.cap.width s.node.cap.level s.node.cap.device c.kind c.slot c.dest c.core c.mask c.object c.bits c.level c.offset c.count c.index c.addr (cs.map ZiO) acc z) cs.length
   (fun i acc=>∃ ns:List K3,acc=ns.map Zer∧ns.length=i∧∀ n∈ns,Jt n=true∧n.id.op≤(o:Int)∧(∀ i∈n.path,i.op≤(o:Int))∧0≤JS m.rs n.cap.base n.cap.bits) g9 ?_ E0 ⟨[],rfl,rfl,fun n hn=>(by cases hn)⟩
  rintro q i acc hi ⟨ns,rfl,hnl,hns⟩ next
  refine Zk (ZjD ..) (Zb (fun hlt=>?_) fun hge=>?_)
  ·simp only [CQ,List.length_map] at hlt
   have ni:i < cs.length:=Int.ofNat_lt.1 hlt
   refine Zk (VG ni _) ?_
   have c12:=hca _ (List.getElem_mem ni)
   have hCN:=Zdq (m:=m) (q:=i) he.ok he.op he.pa he.rg hjo f2 ⟨hk.1,f1⟩ (Nat.lt_of_lt_of_le ni g8) c12.1 c12.2 hn8
   have e82:=Zo5 hCN.1
   refine Zf e82 (Zc (Zh (by rw [List.length_map,hnl];exact Nat.le_trans (Nat.add_le_add_right (Nat.le_trans hi g8) 1) (by decide)) (by decide)) ?_)
   rw [JU hi g9]
   refine next ni _ ⟨ns++[Yq s.node ⟨k,(o:Int),(i:Int)⟩ cs[i]],by simp [Zer,Yq],by simp [hnl],fun n hn=>?_⟩
   rcases List.mem_append.1 hn with hn | hn
   ·exact hns n hn
   ·rw [List.mem_singleton] at hn;subst hn;exact hCN.2
  ·have hl8':ns.length≤8:=by rw [hnl];exact Nat.le_trans hi g8
   have hfit:c.dest+(ns.length:Int)≤m.p:=by
    have:(ns.length:Int)≤((c.count.toNat:Nat):Int):=by rw [hnl,← hcl];exact Int.ofNat_le.2 hi
    exact Int.le_trans (Int.add_le_add_left this _) f10
   refine Ze (s40 m (j:=o) (h.lok.mono (Nat.le_of_lt hjo)) k c.dest hk hc.2.2.1 ns hfit f3 hns (Nat.le_trans (Nat.add_le_add_left hl8' _) f6) f4 f5) fun r52 hr52=>?_
   obtain ⟨l',cr',rfl,a1,a2,a3,a4⟩:=hr52
   exact Za ⟨0,_,rfl,Nx.ins h hjo a1 (Nat.le_trans a2 (Nat.add_le_add_left hl8' _)) a3 a4,.inr ⟨hz,.inr ⟨ht,.inr ⟨hn8,.inr rfl⟩⟩⟩⟩
 rw [← hcs] at key
 exact key
theorem Ziw {m:Mc} {j o:Nat} {s:ZT} (he:EM m.ws.length m.p m.rs j s) (hjo:j < o) (ho:o≤200) {k:Int} (hk:0≤k∧k < 32) (msk:Int) (hl:s.node.path.length≠8) :
  ∃ n,n=Yq s.node ⟨k,(o:Int),0⟩ { s.node.cap with rights:=iop .and .i64 s.node.cap.rights msk }∧ZaS s.node ⟨k,(o:Int),0⟩ { s.node.cap with rights:=iop .and .i64 s.node.cap.rights msk }∧∀ x∈[n],Jt x=true∧x.id.op≤(o:Int)∧(∀ i∈x.path,i.op≤(o:Int))∧0≤JS m.rs x.cap.base x.cap.bits:=by
 have hc:=(Jr he.ok).2.1
 have hCN:=Zdq (m:=m) (q:=0) he.ok he.op he.pa he.rg hjo ho hk (by decide) (Zk7 hc msk) (ZjM (Zcv hc)) hl
 exact ⟨_,rfl,hCN.1,fun x hx=>by rw [List.mem_singleton] at hx;subst hx;exact hCN.2⟩
theorem s46 (m:Mc) {j o:Nat} (h:WfM m j) (hjo:j < o) (ho:o≤100) (k:Int) (hk:0≤k∧k < (m.ws.length:Int)) (c:Call) {s:ZT} (he:EM m.ws.length m.p m.rs j s) (hc:0≤c.dest∧c.dest < m.p) :
  Ret (fun r=>∃ e m',r=(e,mT m')∧Nx m m' o∧ZkJ m k c s.node e) (g46 (Zd m.ws) m.st m.p (m.rs.map JO) m.os (m.l.map Zm) m.tabs m.mem m.been (m.cr.map crc) k (o:Int) s.node.id.core s.node.id.op s.node.id.part (Zl s.node.path) s.node.cap.kind s.node.cap.base s.node.cap.bits s.node.cap.rights s.node.cap.width s.node.cap.level s.node.cap.device c.kind c.slot c.dest c.core c.mask c.object c.bits c.level c.offset c.count c.index c.addr):=by
 have hl:m.l.length < 2^63:=by have:=h.len;omega
 have hl8:m.l.length≤800:=by have:=h.len;omega
 have hw4:=h.w4
 have hp1:=h.p1
 have hr3:=h.r3
 have nx:=Nx.refl h (Nat.le_of_lt hjo)
 have hk':k < (m.tabs.length:Int):=by rw [h.tl];exact hk.2
 have f1:k < 32:=by omega
 have f2:o≤200:=by omega
 have f3:m.p≤800:=by omega
 have f4:m.cr.length≤900:=by have:=h.crl;omega
 have f5:∀ x∈m.cr,x.2≤(o:Int):=fun x hx=>by have:=h.cro x hx;omega
 have f6:m.l.length+8≤900:=by omega
 have f6':m.l.length+1≤900:=by omega
 have f7:c.dest+((1:Nat):Int)≤m.p:=by omega
 have f11:c.dest < 2^40:=by omega
 rw [Zm6]
 refine Zf (s38 m hl h.paths k c.dest 1 hc.1 f11 (by decide)) (Zb (fun h2=>Za ⟨3,m,rfl,nx,.inl ⟨h2,rfl⟩⟩) fun h2=>?_)
 have ht:tkB m.l k c.dest 1=false:=Bool.eq_false_iff.2 h2
 refine Zb (fun h3=>Za ⟨9,m,rfl,nx,.inr ⟨ht,.inl ⟨Zpr h3,rfl⟩⟩⟩) fun h3=>?_
 have hn8:s.node.path.length≠8:=fun e=>h3 (by simp only [CQ,JB,e];rfl)
 obtain ⟨n,hn,hC,hN⟩:=Ziw (m:=m) he hjo f2 (k:=k) ⟨hk.1,f1⟩ c.mask hn8
 have e82:=Zo5 hC
 refine Zf (s83 ..) (Zf e82 ?_)
 have h40:=s40 m (j:=o) (h.lok.mono (Nat.le_of_lt hjo)) k c.dest hk hc.1 [n] f7 f3 hN f6' f4 f5
 rw [hn] at h40
 refine Ze h40 fun r52 hr52=>?_
 obtain ⟨l',cr',rfl,a1,a2,a3,a4⟩:=hr52
 exact Za ⟨0,_,rfl,Nx.ins h hjo a1 (Nat.le_trans a2 (Nat.add_le_add_left (show 1≤8 by decide) _)) a3 a4,.inr ⟨ht,.inr ⟨hn8,rfl⟩⟩⟩
theorem s47 (m:Mc) {j o:Nat} (h:WfM m j) (hjo:j < o) (ho:o≤100) (k:Int) (hk:0≤k∧k < (m.ws.length:Int)) (c:Call) {s:ZT} (he:EM m.ws.length m.p m.rs j s) (hc:0≤c.dest∧c.dest < m.p) :
  Ret (fun r=>∃ e m',r=(e,mT m')∧Nx m m' o∧ZkQ m c s.node e) (g47 (Zd m.ws) m.st m.p (m.rs.map JO) m.os (m.l.map Zm) m.tabs m.mem m.been (m.cr.map crc) k (o:Int) s.node.id.core s.node.id.op s.node.id.part (Zl s.node.path) s.node.cap.kind s.node.cap.base s.node.cap.bits s.node.cap.rights s.node.cap.width s.node.cap.level s.node.cap.device c.kind c.slot c.dest c.core c.mask c.object c.bits c.level c.offset c.count c.index c.addr):=by
 have hl:m.l.length < 2^63:=by have:=h.len;omega
 have hl8:m.l.length≤800:=by have:=h.len;omega
 have hw4:=h.w4
 have hp1:=h.p1
 have hr3:=h.r3
 have nx:=Nx.refl h (Nat.le_of_lt hjo)
 have hk':k < (m.tabs.length:Int):=by rw [h.tl];exact hk.2
 have f1:k < 32:=by omega
 have f2:o≤200:=by omega
 have f3:m.p≤800:=by omega
 have f4:m.cr.length≤900:=by have:=h.crl;omega
 have f5:∀ x∈m.cr,x.2≤(o:Int):=fun x hx=>by have:=h.cro x hx;omega
 have f6:m.l.length+8≤900:=by omega
 have f6':m.l.length+1≤900:=by omega
 have f7:c.dest+((1:Nat):Int)≤m.p:=by omega
 have f11:c.dest < 2^40:=by omega
 rw [Zod]
 refine Zb (fun q=>Za ⟨5,m,rfl,nx,.inl ⟨.inl (by simpa only [CQ] using q),rfl⟩⟩) fun q1=>Zb (fun q=>Za ⟨5,m,rfl,nx,.inl ⟨.inr (.inl (by simpa only [CQ] using q)),rfl⟩⟩) fun q2=>Zb (fun q=>Za ⟨5,m,rfl,nx,.inl ⟨.inr (.inr (by simpa only [CQ] using q)),rfl⟩⟩) fun q3=>?_
 simp only [CQ] at q1 q2 q3
 have hkd:¬ (s.node.cap.kind=3∨s.node.cap.kind=5∨s.node.cap.kind=6):=fun h=>h.elim q1 fun h=>h.elim q2 q3
 refine Zb (fun q=>Za ⟨8,m,rfl,nx,.inr ⟨hkd,.inl ⟨by simpa only [CQ] using q,rfl⟩⟩⟩) fun q4=>?_
 have hrt:iop .and .i64 s.node.cap.rights 4≠0:=by simpa only [CQ] using q4
 refine Zb (fun h3=>Za ⟨9,m,rfl,nx,.inr ⟨hkd,.inr ⟨hrt,.inl ⟨Zpr h3,rfl⟩⟩⟩⟩) fun h3=>?_
 have hn8:s.node.path.length≠8:=fun e=>h3 (by simp only [CQ,JB,e];rfl)
 refine Zf (s15 m h.mem c.core) (Zb (fun q=>Za ⟨10,m,rfl,nx,.inr ⟨hkd,.inr ⟨hrt,.inr ⟨hn8,.inl ⟨Zde q,rfl⟩⟩⟩⟩⟩) fun q5=>?_)
 have hcc:0≤c.core∧c.core < (m.ws.length:Int):=ZcB q5
 refine Zf (s38 m hl h.paths c.core c.dest 1 hc.1 f11 (by decide)) (Zb (fun h2=>Za ⟨3,m,rfl,nx,.inr ⟨hkd,.inr ⟨hrt,.inr ⟨hn8,.inr ⟨hcc,.inl rfl⟩⟩⟩⟩⟩) fun h2=>?_)
 obtain ⟨n,hn,hC,hN⟩:=Ziw (m:=m) he hjo f2 (k:=k) ⟨hk.1,f1⟩ c.mask hn8
 have e82:=Zo5 hC
 refine Zf (s83 ..) (Zf e82 ?_)
 have h40:=s40 m (j:=o) (h.lok.mono (Nat.le_of_lt hjo)) c.core c.dest hcc hc.1 [n] f7 f3 hN f6' f4 f5
 rw [hn] at h40
 refine Ze h40 fun r52 hr52=>?_
 obtain ⟨l',cr',rfl,a1,a2,a3,a4⟩:=hr52
 exact Za ⟨0,_,rfl,Nx.ins h hjo a1 (Nat.le_trans a2 (Nat.add_le_add_left (show 1≤8 by decide) _)) a3 a4,.inr ⟨hkd,.inr ⟨hrt,.inr ⟨hn8,.inr ⟨hcc,.inr rfl⟩⟩⟩⟩⟩
end Go.Proofs.YtapbmpfhogkkaaaGreat
end

section
namespace Go.Proofs.YtapbmpfhogkkaaaGreat
open Go Go.AM
set_option linter.unusedSimpArgs false
set_option linter.unusedVariables false
set_option maxRecDepth 100000
theorem Jz {a b:Int} (h:cop .eql a b=true):a=b:=by simpa only [CQ] using h
theorem Z4 {a b:Int} (h:¬ cop .eql a b=true):a≠b:=by simpa only [CQ] using h
def wfD (m:Mc) (k:Int) (c:Call):Prop:=
 (0≤c.slot∧c.slot < m.p)∧(c.kind=2→1≤c.count∧c.count≤8∧0≤c.dest∧c.dest≤m.p-c.count)∧(c.kind=3→(0≤c.dest∧c.dest < m.p)∧0≤c.mask∧c.mask≤7)∧
  (c.kind=4→(0≤c.dest∧c.dest < m.p)∧(0≤c.mask∧c.mask≤7)∧(0≤c.core∧c.core < 32)∧c.core≠k)
def Zfd (m:Mc) (k:Int) (c:Call) (e:Int):Prop:=
 (¬ wfD m k c∧e=1)∨(wfD m k c∧((atE m.l k c.slot=none∧e=2)∨∃ s,atE m.l k c.slot=some s∧(c.kind=2→Zhu m k c s.node e)∧(c.kind=3→ZkJ m k c s.node e)∧(c.kind=4→ZkQ m c s.node e)∧(c.kind=5∨c.kind=6→e=0)))
set_option maxHeartbeats 4000000 in
theorem s20 (m:Mc) {j o:Nat} (h:WfM m j) (hjo:j < o) (ho:o≤100) (k:Int) (hk:0≤k∧k < (m.ws.length:Int)) (c:Call):Ret (fun r=>∃ e m',r=(e,mT m')∧Nx m m' o∧Zfd m k c e) (g20 (Zd m.ws) m.st m.p (m.rs.map JO) m.os (m.l.map Zm) m.tabs m.mem m.been (m.cr.map crc) k (o:Int) c.kind c.slot c.dest c.core c.mask c.object c.bits c.level c.offset c.count c.index c.addr):=by
 have hl:m.l.length < 2^63:=by have:=h.len;omega
 have hl8:m.l.length≤800:=by have:=h.len;omega
 have hw4:=h.w4
 have hp1:=h.p1
 have hr3:=h.r3
 have nx:=Nx.refl h (Nat.le_of_lt hjo)
 have hk':k < (m.tabs.length:Int):=by rw [h.tl];exact hk.2
 have f1:j≤800:=by omega
 have f2:m.tabs.length≤100:=by rw [h.tl];omega
 have hl9:m.l.length≤900:=by omega
 have few:ZiN m.l:=h.lok.few (by omega)
 have esub:1≤c.count→c.count≤8→iop .sub .i64 m.p c.count=m.p-c.count:=fun h1 h2=>by have:=h.p0;exact ZdI (by omega) (by omega)
 rw [ZmC,s36,Option.bind_some]
 refine Zb (fun h1=>Za ⟨1,m,rfl,nx,.inl ⟨fun w=>?_,rfl⟩⟩) fun h1=>?_
 ·exact Zde h1 w.1
 have hs:=ZcB h1
 refine Zb (fun y2=>?_) fun y2=>Zb (fun y3=>?_) fun y3=>Zb (fun y4=>?_) fun y4=>?_
 ·have hk2:c.kind=2:=Jz y2
  refine Zb (fun q=>Za ⟨1,m,rfl,nx,.inl ⟨fun w=>?_,rfl⟩⟩) fun q1=>Zb (fun q=>Za ⟨1,m,rfl,nx,.inl ⟨fun w=>?_,rfl⟩⟩) fun q2'=>Zb (fun q=>Za ⟨1,m,rfl,nx,.inl ⟨fun w=>?_,rfl⟩⟩) fun q3'=>Zb (fun q=>Za ⟨1,m,rfl,nx,.inl ⟨fun w=>?_,rfl⟩⟩) fun q4'=>?_
  ·have:=w.2.1 hk2;simp only [CQ] at q;omega
  ·have:=w.2.1 hk2;simp only [CQ] at q;omega
  ·have:=w.2.1 hk2;simp only [CQ] at q;omega
  ·have:=w.2.1 hk2;simp only [CQ] at q q1 q2';rw [esub (by omega) (by omega)] at q;omega
  simp only [CQ] at q1 q2' q3' q4'
  rw [esub (by omega) (by omega)] at q4'
  have hw:wfD m k c:=⟨hs,fun _=>⟨by omega,by omega,by omega,by omega⟩,fun h=>absurd (hk2.symm.trans h) (by decide),fun h=>absurd (hk2.symm.trans h) (by decide)⟩
  refine Zf (s41 m hl h.paths k c.slot) ?_
  cases hat:atE m.l k c.slot with
  | none => exact Zb (fun _ => Za ⟨2, m, rfl, nx, .inr ⟨hw, .inl ⟨hat, rfl⟩⟩⟩) fun hn => absurd (show (!false) = true from rfl) hn
  | some s =>
   have he:=h.lok.ent s (List.mem_of_find?_eq_some hat)
   refine Zb (fun hn=>absurd (show (!true)=true from hn) (by decide)) fun _=>Zb (fun q2=>?_) fun q2=>Zb (fun q3=>?_) fun q3=>Zb (fun q4=>?_) fun q4=>Zb (fun q5=>?_) fun q5=>?_
   ·have hk2:c.kind=2:=Jz q2
    refine Ze (s45 m h hjo ho k hk c he (hw.2.1 hk2)) fun r hr=>?_
    obtain ⟨e,m',rfl,a1,a2⟩:=hr
    exact Za ⟨e,m',rfl,a1,.inr ⟨hw,.inr ⟨s,hat,fun _=>a2,fun h=>absurd (hk2.symm.trans h) (by decide),fun h=>absurd (hk2.symm.trans h) (by decide),fun h=>h.elim (fun h=>absurd (hk2.symm.trans h) (by decide)) fun h=>absurd (hk2.symm.trans h) (by decide)⟩⟩⟩
   ·have hk2:c.kind=3:=Jz q3
    refine Ze (s46 m h hjo ho k hk c he (hw.2.2.1 hk2).1) fun r hr=>?_
    obtain ⟨e,m',rfl,a1,a2⟩:=hr
    exact Za ⟨e,m',rfl,a1,.inr ⟨hw,.inr ⟨s,hat,fun h=>absurd (hk2.symm.trans h) (by decide),fun _=>a2,fun h=>absurd (hk2.symm.trans h) (by decide),fun h=>h.elim (fun h=>absurd (hk2.symm.trans h) (by decide)) fun h=>absurd (hk2.symm.trans h) (by decide)⟩⟩⟩
   ·have hk2:c.kind=4:=Jz q4
    refine Ze (s47 m h hjo ho k hk c he (hw.2.2.2 hk2).1) fun r hr=>?_
    obtain ⟨e,m',rfl,a1,a2⟩:=hr
    exact Za ⟨e,m',rfl,a1,.inr ⟨hw,.inr ⟨s,hat,fun h=>absurd (hk2.symm.trans h) (by decide),fun h=>absurd (hk2.symm.trans h) (by decide),fun _=>a2,fun h=>h.elim (fun h=>absurd (hk2.symm.trans h) (by decide)) fun h=>absurd (hk2.symm.trans h) (by decide)⟩⟩⟩
   ·have h2:=Z4 q2
    have h3:=Z4 q3
    have h4:=Z4 q4
    refine Ze (s48 m.l few s.node.id) fun r hr=>?_
    obtain ⟨x,b⟩:=r
    obtain ⟨l',e1,e2⟩:=hr
    obtain rfl:x=l'.map Zm:=e1
    refine Ze (s50 { m with l:=l' } (j:=j) f1 h.tb (Nat.le_trans e2.length_le hl9) f2) fun r2 hr2=>?_
    obtain ⟨t,rfl,t1,t2⟩:=hr2
    exact Za ⟨0,{ m with l:=l',tabs:=t },rfl,Nx.syn h (Nat.le_of_lt hjo) e2 t1 t2,.inr ⟨hw,.inr ⟨s,hat,fun h=>absurd h h2,fun h=>absurd h h3,fun h=>absurd h h4,fun _=>rfl⟩⟩⟩
   ·have h2:=Z4 q2
    have h3:=Z4 q3
    have h4:=Z4 q4
    refine Ze (s49 m.l few s.node.id) fun r hr=>?_
    obtain ⟨l',rfl,e2⟩:=hr
    refine Ze (s50 { m with l:=l' } (j:=j) f1 h.tb (Nat.le_trans e2.length_le hl9) f2) fun r2 hr2=>?_
    obtain ⟨t,rfl,t1,t2⟩:=hr2
    exact Za ⟨0,{ m with l:=l',tabs:=t },rfl,Nx.syn h (Nat.le_of_lt hjo) e2 t1 t2,.inr ⟨hw,.inr ⟨s,hat,fun h=>absurd h h2,fun h=>absurd h h3,fun h=>absurd h h4,fun _=>rfl⟩⟩⟩
 ·have hk2:c.kind=3:=Jz y3
  refine Zf (s36 m c.dest) (Zb (fun q=>Za ⟨1,m,rfl,nx,.inl ⟨fun w=>?_,rfl⟩⟩) fun q1=>Zb (fun q=>Za ⟨1,m,rfl,nx,.inl ⟨fun w=>?_,rfl⟩⟩) fun q2'=>Zb (fun q=>Za ⟨1,m,rfl,nx,.inl ⟨fun w=>?_,rfl⟩⟩) fun q3'=>?_)
  ·exact Zde q (w.2.2.1 hk2).1
  ·have:=w.2.2.1 hk2;simp only [CQ] at q;omega
  ·have:=w.2.2.1 hk2;simp only [CQ] at q;omega
  have hd:=ZcB q1
  simp only [CQ] at q2' q3'
  have hw:wfD m k c:=⟨hs,fun h=>absurd (hk2.symm.trans h) (by decide),fun _=>⟨hd,by omega,by omega⟩,fun h=>absurd (hk2.symm.trans h) (by decide)⟩
  refine Zf (s41 m hl h.paths k c.slot) ?_
  cases hat:atE m.l k c.slot with
  | none => exact Zb (fun _ => Za ⟨2, m, rfl, nx, .inr ⟨hw, .inl ⟨hat, rfl⟩⟩⟩) fun hn => absurd (show (!false) = true from rfl) hn
  | some s =>
   have he:=h.lok.ent s (List.mem_of_find?_eq_some hat)
   refine Zb (fun hn=>absurd (show (!true)=true from hn) (by decide)) fun _=>Zb (fun q2=>?_) fun q2=>Zb (fun q3=>?_) fun q3=>Zb (fun q4=>?_) fun q4=>Zb (fun q5=>?_) fun q5=>?_
   ·have hk2:c.kind=2:=Jz q2
    refine Ze (s45 m h hjo ho k hk c he (hw.2.1 hk2)) fun r hr=>?_
    obtain ⟨e,m',rfl,a1,a2⟩:=hr
    exact Za ⟨e,m',rfl,a1,.inr ⟨hw,.inr ⟨s,hat,fun _=>a2,fun h=>absurd (hk2.symm.trans h) (by decide),fun h=>absurd (hk2.symm.trans h) (by decide),fun h=>h.elim (fun h=>absurd (hk2.symm.trans h) (by decide)) fun h=>absurd (hk2.symm.trans h) (by decide)⟩⟩⟩
   ·have hk2:c.kind=3:=Jz q3
    refine Ze (s46 m h hjo ho k hk c he (hw.2.2.1 hk2).1) fun r hr=>?_
    obtain ⟨e,m',rfl,a1,a2⟩:=hr
    exact Za ⟨e,m',rfl,a1,.inr ⟨hw,.inr ⟨s,hat,fun h=>absurd (hk2.symm.trans h) (by decide),fun _=>a2,fun h=>absurd (hk2.symm.trans h) (by decide),fun h=>h.elim (fun h=>absurd (hk2.symm.trans h) (by decide)) fun h=>absurd (hk2.symm.trans h) (by decide)⟩⟩⟩
   ·have hk2:c.kind=4:=Jz q4
    refine Ze (s47 m h hjo ho k hk c he (hw.2.2.2 hk2).1) fun r hr=>?_
    obtain ⟨e,m',rfl,a1,a2⟩:=hr
    exact Za ⟨e,m',rfl,a1,.inr ⟨hw,.inr ⟨s,hat,fun h=>absurd (hk2.symm.trans h) (by decide),fun h=>absurd (hk2.symm.trans h) (by decide),fun _=>a2,fun h=>h.elim (fun h=>absurd (hk2.symm.trans h) (by decide)) fun h=>absurd (hk2.symm.trans h) (by decide)⟩⟩⟩
   ·have h2:=Z4 q2
    have h3:=Z4 q3
    have h4:=Z4 q4
    refine Ze (s48 m.l few s.node.id) fun r hr=>?_
    obtain ⟨x,b⟩:=r
    obtain ⟨l',e1,e2⟩:=hr
    obtain rfl:x=l'.map Zm:=e1
    refine Ze (s50 { m with l:=l' } (j:=j) f1 h.tb (Nat.le_trans e2.length_le hl9) f2) fun r2 hr2=>?_
    obtain ⟨t,rfl,t1,t2⟩:=hr2
    exact Za ⟨0,{ m with l:=l',tabs:=t },rfl,Nx.syn h (Nat.le_of_lt hjo) e2 t1 t2,.inr ⟨hw,.inr ⟨s,hat,fun h=>absurd h h2,fun h=>absurd h h3,fun h=>absurd h h4,fun _=>rfl⟩⟩⟩
   ·have h2:=Z4 q2
    have h3:=Z4 q3
    have h4:=Z4 q4
    refine Ze (s49 m.l few s.node.id) fun r hr=>?_
    obtain ⟨l',rfl,e2⟩:=hr
    refine Ze (s50 { m with l:=l' } (j:=j) f1 h.tb (Nat.le_trans e2.length_le hl9) f2) fun r2 hr2=>?_
    obtain ⟨t,rfl,t1,t2⟩:=hr2
    exact Za ⟨0,{ m with l:=l',tabs:=t },rfl,Nx.syn h (Nat.le_of_lt hjo) e2 t1 t2,.inr ⟨hw,.inr ⟨s,hat,fun h=>absurd h h2,fun h=>absurd h h3,fun h=>absurd h h4,fun _=>rfl⟩⟩⟩
 ·have hk2:c.kind=4:=Jz y4
  refine Zf (s36 m c.dest) (Zb (fun q=>Za ⟨1,m,rfl,nx,.inl ⟨fun w=>?_,rfl⟩⟩) fun q1=>Zb (fun q=>Za ⟨1,m,rfl,nx,.inl ⟨fun w=>?_,rfl⟩⟩) fun q2'=>Zb (fun q=>Za ⟨1,m,rfl,nx,.inl ⟨fun w=>?_,rfl⟩⟩) fun q3'=>Zb (fun q=>Za ⟨1,m,rfl,nx,.inl ⟨fun w=>?_,rfl⟩⟩) fun q4'=>Zb (fun q=>Za ⟨1,m,rfl,nx,.inl ⟨fun w=>?_,rfl⟩⟩) fun q5'=>Zb (fun q=>Za ⟨1,m,rfl,nx,.inl ⟨fun w=>?_,rfl⟩⟩) fun q6'=>?_)
  ·exact Zde q (w.2.2.2 hk2).1
  ·have:=w.2.2.2 hk2;simp only [CQ] at q;omega
  ·have:=w.2.2.2 hk2;simp only [CQ] at q;omega
  ·have:=w.2.2.2 hk2;simp only [CQ] at q;omega
  ·have:=w.2.2.2 hk2;simp only [CQ] at q;omega
  ·have:=w.2.2.2 hk2;simp only [CQ] at q;omega
  have hd:=ZcB q1
  simp only [CQ] at q2' q3' q4' q5' q6'
  have hw:wfD m k c:=⟨hs,fun h=>absurd (hk2.symm.trans h) (by decide),fun h=>absurd (hk2.symm.trans h) (by decide),fun _=>⟨hd,⟨by omega,by omega⟩,⟨by omega,by omega⟩,q6'⟩⟩
  refine Zf (s41 m hl h.paths k c.slot) ?_
  cases hat:atE m.l k c.slot with
  | none => exact Zb (fun _ => Za ⟨2, m, rfl, nx, .inr ⟨hw, .inl ⟨hat, rfl⟩⟩⟩) fun hn => absurd (show (!false) = true from rfl) hn
  | some s =>
   have he:=h.lok.ent s (List.mem_of_find?_eq_some hat)
   refine Zb (fun hn=>absurd (show (!true)=true from hn) (by decide)) fun _=>Zb (fun q2=>?_) fun q2=>Zb (fun q3=>?_) fun q3=>Zb (fun q4=>?_) fun q4=>Zb (fun q5=>?_) fun q5=>?_
   ·have hk2:c.kind=2:=Jz q2
    refine Ze (s45 m h hjo ho k hk c he (hw.2.1 hk2)) fun r hr=>?_
    obtain ⟨e,m',rfl,a1,a2⟩:=hr
    exact Za ⟨e,m',rfl,a1,.inr ⟨hw,.inr ⟨s,hat,fun _=>a2,fun h=>absurd (hk2.symm.trans h) (by decide),fun h=>absurd (hk2.symm.trans h) (by decide),fun h=>h.elim (fun h=>absurd (hk2.symm.trans h) (by decide)) fun h=>absurd (hk2.symm.trans h) (by decide)⟩⟩⟩
   ·have hk2:c.kind=3:=Jz q3
    refine Ze (s46 m h hjo ho k hk c he (hw.2.2.1 hk2).1) fun r hr=>?_
    obtain ⟨e,m',rfl,a1,a2⟩:=hr
    exact Za ⟨e,m',rfl,a1,.inr ⟨hw,.inr ⟨s,hat,fun h=>absurd (hk2.symm.trans h) (by decide),fun _=>a2,fun h=>absurd (hk2.symm.trans h) (by decide),fun h=>h.elim (fun h=>absurd (hk2.symm.trans h) (by decide)) fun h=>absurd (hk2.symm.trans h) (by decide)⟩⟩⟩
   ·have hk2:c.kind=4:=Jz q4
    refine Ze (s47 m h hjo ho k hk c he (hw.2.2.2 hk2).1) fun r hr=>?_
    obtain ⟨e,m',rfl,a1,a2⟩:=hr
    exact Za ⟨e,m',rfl,a1,.inr ⟨hw,.inr ⟨s,hat,fun h=>absurd (hk2.symm.trans h) (by decide),fun h=>absurd (hk2.symm.trans h) (by decide),fun _=>a2,fun h=>h.elim (fun h=>absurd (hk2.symm.trans h) (by decide)) fun h=>absurd (hk2.symm.trans h) (by decide)⟩⟩⟩
   ·have h2:=Z4 q2
    have h3:=Z4 q3
    have h4:=Z4 q4
    refine Ze (s48 m.l few s.node.id) fun r hr=>?_
    obtain ⟨x,b⟩:=r
    obtain ⟨l',e1,e2⟩:=hr
    obtain rfl:x=l'.map Zm:=e1
    refine Ze (s50 { m with l:=l' } (j:=j) f1 h.tb (Nat.le_trans e2.length_le hl9) f2) fun r2 hr2=>?_
    obtain ⟨t,rfl,t1,t2⟩:=hr2
    exact Za ⟨0,{ m with l:=l',tabs:=t },rfl,Nx.syn h (Nat.le_of_lt hjo) e2 t1 t2,.inr ⟨hw,.inr ⟨s,hat,fun h=>absurd h h2,fun h=>absurd h h3,fun h=>absurd h h4,fun _=>rfl⟩⟩⟩
   ·have h2:=Z4 q2
    have h3:=Z4 q3
    have h4:=Z4 q4
    refine Ze (s49 m.l few s.node.id) fun r hr=>?_
    obtain ⟨l',rfl,e2⟩:=hr
    refine Ze (s50 { m with l:=l' } (j:=j) f1 h.tb (Nat.le_trans e2.length_le hl9) f2) fun r2 hr2=>?_
    obtain ⟨t,rfl,t1,t2⟩:=hr2
    exact Za ⟨0,{ m with l:=l',tabs:=t },rfl,Nx.syn h (Nat.le_of_lt hjo) e2 t1 t2,.inr ⟨hw,.inr ⟨s,hat,fun h=>absurd h h2,fun h=>absurd h h3,fun h=>absurd h h4,fun _=>rfl⟩⟩⟩
 ·have hw:wfD m k c:=⟨hs,fun h=>absurd h (Z4 y2),fun h=>absurd h (Z4 y3),fun h=>absurd h (Z4 y4)⟩
  refine Zf (s41 m hl h.paths k c.slot) ?_
  cases hat:atE m.l k c.slot with
  | none => exact Zb (fun _ => Za ⟨2, m, rfl, nx, .inr ⟨hw, .inl ⟨hat, rfl⟩⟩⟩) fun hn => absurd (show (!false) = true from rfl) hn
  | some s =>
   have he:=h.lok.ent s (List.mem_of_find?_eq_some hat)
   refine Zb (fun hn=>absurd (show (!true)=true from hn) (by decide)) fun _=>Zb (fun q2=>?_) fun q2=>Zb (fun q3=>?_) fun q3=>Zb (fun q4=>?_) fun q4=>Zb (fun q5=>?_) fun q5=>?_
   ·have hk2:c.kind=2:=Jz q2
    refine Ze (s45 m h hjo ho k hk c he (hw.2.1 hk2)) fun r hr=>?_
    obtain ⟨e,m',rfl,a1,a2⟩:=hr
    exact Za ⟨e,m',rfl,a1,.inr ⟨hw,.inr ⟨s,hat,fun _=>a2,fun h=>absurd (hk2.symm.trans h) (by decide),fun h=>absurd (hk2.symm.trans h) (by decide),fun h=>h.elim (fun h=>absurd (hk2.symm.trans h) (by decide)) fun h=>absurd (hk2.symm.trans h) (by decide)⟩⟩⟩
   ·have hk2:c.kind=3:=Jz q3
    refine Ze (s46 m h hjo ho k hk c he (hw.2.2.1 hk2).1) fun r hr=>?_
    obtain ⟨e,m',rfl,a1,a2⟩:=hr
    exact Za ⟨e,m',rfl,a1,.inr ⟨hw,.inr ⟨s,hat,fun h=>absurd (hk2.symm.trans h) (by decide),fun _=>a2,fun h=>absurd (hk2.symm.trans h) (by decide),fun h=>h.elim (fun h=>absurd (hk2.symm.trans h) (by decide)) fun h=>absurd (hk2.symm.trans h) (by decide)⟩⟩⟩
   ·have hk2:c.kind=4:=Jz q4
    refine Ze (s47 m h hjo ho k hk c he (hw.2.2.2 hk2).1) fun r hr=>?_
    obtain ⟨e,m',rfl,a1,a2⟩:=hr
    exact Za ⟨e,m',rfl,a1,.inr ⟨hw,.inr ⟨s,hat,fun h=>absurd (hk2.symm.trans h) (by decide),fun h=>absurd (hk2.symm.trans h) (by decide),fun _=>a2,fun h=>h.elim (fun h=>absurd (hk2.symm.trans h) (by decide)) fun h=>absurd (hk2.symm.trans h) (by decide)⟩⟩⟩
   ·have h2:=Z4 q2
    have h3:=Z4 q3
    have h4:=Z4 q4
    refine Ze (s48 m.l few s.node.id) fun r hr=>?_
    obtain ⟨x,b⟩:=r
    obtain ⟨l',e1,e2⟩:=hr
    obtain rfl:x=l'.map Zm:=e1
    refine Ze (s50 { m with l:=l' } (j:=j) f1 h.tb (Nat.le_trans e2.length_le hl9) f2) fun r2 hr2=>?_
    obtain ⟨t,rfl,t1,t2⟩:=hr2
    exact Za ⟨0,{ m with l:=l',tabs:=t },rfl,Nx.syn h (Nat.le_of_lt hjo) e2 t1 t2,.inr ⟨hw,.inr ⟨s,hat,fun h=>absurd h h2,fun h=>absurd h h3,fun h=>absurd h h4,fun _=>rfl⟩⟩⟩
   ·have h2:=Z4 q2
    have h3:=Z4 q3
    have h4:=Z4 q4
    refine Ze (s49 m.l few s.node.id) fun r hr=>?_
    obtain ⟨l',rfl,e2⟩:=hr
    refine Ze (s50 { m with l:=l' } (j:=j) f1 h.tb (Nat.le_trans e2.length_le hl9) f2) fun r2 hr2=>?_
    obtain ⟨t,rfl,t1,t2⟩:=hr2
    exact Za ⟨0,{ m with l:=l',tabs:=t },rfl,Nx.syn h (Nat.le_of_lt hjo) e2 t1 t2,.inr ⟨hw,.inr ⟨s,hat,fun h=>absurd h h2,fun h=>absurd h h3,fun h=>absurd h h4,fun _=>rfl⟩⟩⟩
theorem Zk3 {γ:Type} {l:List (Int×Int)} {i:Nat} (h:i < l.length) (k:(Int×Int)→Option γ):Zj (l.map crc) (i:Int) [.int .i64,.int .i64] k=k (l[i].1,l[i].2):=
 YQ (f:=crc) (sh:=[.int .i64,.int .i64]) (v:=fun x=>(x.1,x.2)) (fun _=>rfl) h k
set_option maxHeartbeats 4000000 in
theorem s7 (m:Mc) {j o:Nat} (h:WfM m j) (hjo:j < o) (ho:o≤100) (k:Int) (hk:0≤k∧k < (m.ws.length:Int)) (c:Call):Ret (fun r=>∃ e a1 a2 a3 a4 a5 a6 b a8 m',r=(e,a1,a2,a3,a4,a5,a6,b,a8,mT m')∧Nx m m' o∧(c.kind=1→Ze1 m k c e)∧(2≤c.kind→c.kind≤6→Zfd m k c e)) (g7 (Zd m.ws) m.st m.p (m.rs.map JO) m.os (m.l.map Zm) m.tabs m.mem m.been (m.cr.map crc) k (o:Int) c.kind c.slot c.dest c.core c.mask c.object c.bits c.level c.offset c.count c.index c.addr):=by
 have hl:m.l.length < 2^63:=by have:=h.len;omega
 have hl8:m.l.length≤800:=by have:=h.len;omega
 have hw4:=h.w4
 have hp1:=h.p1
 have hr3:=h.r3
 have nx:=Nx.refl h (Nat.le_of_lt hjo)
 have hk':k < (m.tabs.length:Int):=by rw [h.tl];exact hk.2
 have hcr:m.cr.length < 1000:=by have:=h.crl;omega
 have ho1:¬ cop .lss (o:Int) 1=true:=by simp only [CQ];omega
 have ho2:¬ cop .gtr (o:Int) 1073741824=true:=by simp only [CQ];omega
 have z:∀ (e a1 a2 a3 a4 a5 a6:Int) (b:Bool) (a8:Int),(c.kind < 1∨10 < c.kind∨6 < c.kind)→Ret (fun r=>∃ e a1 a2 a3 a4 a5 a6 b a8 m',r=(e,a1,a2,a3,a4,a5,a6,b,a8,mT m')∧Nx m m' o∧(c.kind=1→Ze1 m k c e)∧(2≤c.kind→c.kind≤6→Zfd m k c e)) (some (e,a1,a2,a3,a4,a5,a6,b,a8,mT m)):=
  fun e a1 a2 a3 a4 a5 a6 b a8 hc=>Za ⟨e,a1,a2,a3,a4,a5,a6,b,a8,m,rfl,nx,fun h=>(by omega),fun h1 h2=>(by omega)⟩
 rw [Zpm,s15 m h.mem k,Option.bind_some]
 refine Zb (fun q=>absurd hk (Zde q)) fun _=>Zb (fun q=>absurd q ho1) fun _=>Zb (fun q=>absurd q ho2) fun _=>Zb (fun q=>z _ _ _ _ _ _ _ _ _ ?_) fun q1=>Zb (fun q=>z _ _ _ _ _ _ _ _ _ ?_) fun q2=>?_
 ·simp only [CQ] at q;omega
 ·simp only [CQ] at q;omega
 simp only [CQ] at q1 q2
 refine Zw (F:=fun q (_:Unit) z=>ZoH q (Zd m.ws) m.st m.p (m.rs.map JO) m.os (m.l.map Zm) m.tabs m.mem m.been (m.cr.map crc) k (o:Int) c.kind c.slot c.dest c.core c.mask c.object c.bits c.level c.offset c.count c.index c.addr 0 0 0 0 0 0 0 false 0 z) m.cr.length (fun _ _=>True) hcr ?_ () trivial
 intro q i s hi _ next
 refine Zk (Zln ..) (Zb (fun hlt=>?_) fun hge=>?_)
 ·simp only [CQ,List.length_map] at hlt
  have ni:i < m.cr.length:=Int.ofNat_lt.1 hlt
  refine Zk (Zk3 ni _) (Zb (fun hq=>?_) fun _=>?_)
  ·have hc2:=h.cro _ (List.getElem_mem ni)
   rw [Bool.and_eq_true,Bool.and_eq_true] at hq
   have:=Jz hq.2.1
   omega
  ·rw [JU hi hcr]
   exact next ni () trivial
 ·refine Zb (fun y1=>?_) fun y1=>Zb (fun y7=>?_) fun y7=>Zb (fun y8=>?_) fun y8=>Zb (fun y9=>?_) fun y9=>Zb (fun y10=>?_) fun y10=>?_
  ·have hk1:=Jz y1
   refine Ze (s16 m h hjo ho k hk c) fun r hr=>?_
   obtain ⟨e,m',rfl,a1,a2⟩:=hr
   exact Za ⟨e,_,_,_,_,_,_,_,_,m',rfl,a1,fun _=>a2,fun h=>absurd h (by omega)⟩
  ·have hk7:=Jz y7
   refine Ze (s17 m h hjo ho k hk c) fun r hr=>?_
   obtain ⟨e,b1,b2,b3,b4,b5,b6,b,b8,rfl⟩:=hr
   exact z _ _ _ _ _ _ _ _ _ (by omega)
  ·have hk7:=Jz y8
   refine Ze (s18 m h hjo ho k hk c) fun r hr=>?_
   obtain ⟨e,m',rfl,a1⟩:=hr
   exact Za ⟨e,_,_,_,_,_,_,_,_,m',rfl,a1,fun h=>absurd h (by omega),fun h h'=>absurd h' (by omega)⟩
  ·have hk7:=Jz y9
   refine Ze (s18 m h hjo ho k hk c) fun r hr=>?_
   obtain ⟨e,m',rfl,a1⟩:=hr
   exact Za ⟨e,_,_,_,_,_,_,_,_,m',rfl,a1,fun h=>absurd h (by omega),fun h h'=>absurd h' (by omega)⟩
  ·have hk7:=Jz y10
   refine Ze (s19 m h hjo ho k hk c) fun r hr=>?_
   obtain ⟨e,b1,b2,b3,b4,b5,b6,b,b8,rfl⟩:=hr
   exact z _ _ _ _ _ _ _ _ _ (by omega)
  ·have n1:=Z4 y1
   refine Ze (s20 m h hjo ho k hk c) fun r hr=>?_
   obtain ⟨e,m',rfl,a1,a2⟩:=hr
   exact Za ⟨e,_,_,_,_,_,_,_,_,m',rfl,a1,fun h=>absurd h n1,fun _ _=>a2⟩
end Go.Proofs.YtapbmpfhogkkaaaGreat
end
