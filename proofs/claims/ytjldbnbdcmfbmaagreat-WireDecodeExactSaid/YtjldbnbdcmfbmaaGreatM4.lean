import Derived.Test.YtjldbnbdcmfbmaaGreatRows
import Derived.Test.YtjldbnbdcmfbmaaGreatChecked
import Derived.Test.YtjldbnbdcmfbmaaGreatM3
import Derived.JoinedOf
import Derived.JoinedAt
import Derived.RowKit3
import Derived.KernelRfl
import Derived.Test.YtjldbnbdcmfbmaaGreatF8f
open Option renaming some→Xa,bind_some→Xd,bind→X8
open Bool renaming true→Xb,false→Xc,and_eq_true→Xj,not_eq_true'→Xu,false_eq_true→Xw,not_eq_true→XE,or_eq_true→XF,not_eq_false→XK,not_eq_false'→XN,true_eq_false→XO,true_and→XP,and_true→X6,true_or→Uo,and_false→Ur,or_true→Ut,false_ne_true→UE
open List renaming length_append→Xf,length→Xh,length_map→Xk,length_nil→Xm,all_eq_true→Xo,getElem?_eq_getElem→Xp,getElem_mem→Xq,mem_cons→Xs,length_cons→Xv,getElem?_map→Xy,mem_append→Xz,mem_of_mem_take→XS,all_cons→XU,range'→XW,mem_of_mem_drop→X4,length_take→X5,drop_zero→X7,range→Ue,mem_singleton→Uh,drop_of_length_le→Up,map_take→Uq,all_nil→Us,getElem_of_mem→Uv,map_drop→Uy,map→UA,mem_range→UC,drop_eq_getElem_cons→UF,getElem?_eq_none→UH,take_of_length_le→UM,contains_iff_mem→UZ,mem_range'_1→Ta,ext_getElem?→Tc,take_left→Tf,range'_succ→Ti,not_mem_nil→Tm,length_modify→Tn,getElem_append_left→To,take_add_one→Tz,getElem_take→TB,any_eq_false→TD,getElem?_modify→TJ,pairwise_iff_getElem→TW,getElem_append_right→TX,take_append_of_le_length→TY,any_eq_not_all_not→T0,length_eq_zero_iff→T4
open Option.some renaming injEq→Xg
open Go.IntKind renaming wrap→Xi
open Nat renaming le_refl→Xr,sub_zero→Uc,lt_irrefl→U8
open Int renaming toNat→XJ,toNat_natCast→Uk,mul_le_mul_of_nonneg_right→U9
open Eq renaming trans→XR
set_option linter.unusedVariables false
set_option linter.unusedSimpArgs false
set_option linter.defProp false
namespace Go.Proofs.YtjldbnbdcmfbmaaGreat
noncomputable section
open Go Go.AM
set_option maxRecDepth 100000
def behind : ∃ ws, behindMainWord (wordsSigns Tryz.prog.initOrder.toList) = "cut".toList :: ws := by
 have h:Tryz.prog.initOrder.toList=_:=String.toList_ofList (l:=_);rw [h];exact Zig (by kernel_rfl) (by kernel_rfl) (by kernel_rfl) (by kernel_rfl) (by kernel_rfl) (by kernel_rfl)
def ZyH:Tryz.prog.mayEnter=Xb:=behind.elim fun _ h=>Go.AM.enters_of h (by kernel_rfl) (by kernel_rfl) (by kernel_rfl)
def ZFg:Tryz.prog.liftsFinal=Xc:=behind.elim fun _ h=>Go.AM.final_of h
def ZB4:Tryz.prog.make=Xa .cut:=behind.elim fun _ h=>Go.AM.make_of h
def ZJO:laidOutB Tryz.prog=Xb:=by kernel_rfl
def Zp8:ownKnob Tryz.prog.godebug=none:=by kernel_rfl
def u8c (z:Int):List AV:=[AV.val (.int .u8 z)]
def Za (l:List Int):List (List AV):=l.map u8c
def Zq (l:List Int):Prop:=∀ z∈l,0≤z∧z≤255
def WS (z:Int):List AV:=[I z]
def Zd (l:List Int):List (List AV):=l.map WS
structure Id where
 core:Int
 op:Int
 part:Int
 deriving DecidableEq
def idc (i:Id):List AV:=[I i.core,I i.op,I i.part]
def Ze (l:List Id):List (List AV):=l.map idc
def ZbD {c e:Type} {f:c→e} {p:c→Prop} : ∀ (xs:List e),(∀ x∈xs,∃ a,x=f a∧p a)→∃ l:List c,xs=l.map f∧∀ a∈l,p a
 | [], _ => ⟨[], rfl, by simp⟩
 | x :: xs, h => by
  obtain ⟨a,g,i⟩:=h x (by simp);obtain ⟨l,j,k⟩:=ZbD xs fun y m=>h y (by simp [m]);refine ⟨a::l,by rw [g,j];rfl,fun b d=>?_⟩;rcases Xs.1 d with rfl | d
  ·exact i
  ·exact k b d
def Zvf:List TypeId:=[3,5,22,23,50,56]
def ZGJ (t:TypeId) (h:Zvf.contains t=Xb):ZcY Tryz.prog 12 t=Xb∧t < Tryz.prog.types.size∧Tryz.prog.readableRec t=Xb:=by
 have a:Zvf.all (fun t=>ZcY Tryz.prog 12 t&&decide (t < Tryz.prog.types.size)&&Tryz.prog.readableRec t)=Xb:=by kernel_rfl
 rw [Xo] at a;have:=a t (by simpa using h);simpa [and_assoc] using this
def Wx (k b:Int):Bool:=decide ((k=1∧6≤b∧b≤40)∨(k=2∧12≤b∧b≤40)∨(k=3∧b=12)∨(k=4∧b=6)∨(k=5∧b=10)∨(k=6∧b=16))
def ZKL (k b:Int):ZGi k b=Xa (Wx k b):=by
 rw [Zw6]
 repeat' split
 all_goals (refine congrArg Xa ?_;rw [Zm];simp only [Wx,CQ] at *; omega)
def Zlx (k:Int):Int:=if k=3 then 12 else if k=4 then 6 else if k=5 then 10 else if k=6 then 16 else 0
def ZJy (k:Int):ZEz k=Xa (Zlx k):=by
 rw [Zxj];simp only [CQ,Zlx]
 repeat' split
 all_goals first | rfl | omega
def ZIX (k b:Int):ZDJ k b=Xa (Wx k b):=by
 rw [Zxd];simp only [ZJy,Xd]
 repeat' split
 all_goals (refine congrArg Xa ?_;rw [Zm];simp only [Wx,CQ] at *; first | omega | (rcases (by omega:k=3∨k=4∨k=5∨k=6) with rfl | rfl | rfl | rfl<;>simp [Zlx]))
def ZcT (w l:Int):Bool:=decide ((w=32∧0≤l∧l≤1)∨(w=39∧0≤l∧l≤2))
def ZKM (w l:Int):ZGl w l=Xa (ZcT w l):=by
 rw [Zxu]
 repeat' split
 all_goals (refine congrArg Xa ?_;rw [Zm];simp only [ZcT,CQ] at *; omega)
def ZI0 (w l:Int):ZDe w l=Xa (ZcT w l):=by
 rw [Zuj]
 repeat' split
 all_goals (refine congrArg Xa ?_;rw [Zm];simp only [ZcT,CQ] at *; omega)
def V3 (a b:Int):Bool:=decide (6≤b∧b≤40∧0≤a∧a % 2^b.toNat=0∧a+2^b.toNat≤1099511627776)
def Znp {b:Int} (h:b≤40):(2:Int)^b.toNat≤1099511627776:=by
 have:=ZgF (m:=b.toNat) (n:=40) (by omega);have e:(2:Int)^40=1099511627776:=by decide
 omega
def Zj9 {a:Int} {n:Nat} (h:0≤a):P1 .rem .i64 a (2^n)=a % 2^n:=Int.tmod_eq_emod_of_nonneg h
def Zzw {b:Int} (h:b≤40):P1 .sub .i64 1099511627776 (2^b.toNat)=1099511627776-2^b.toNat:=by
 have:=Znp h;have:=Yn b.toNat;exact YK (by omega) (by omega)
def ZJC (a b:Int):ZHF a b=Xa (V3 a b):=by
 have j:=Yn b.toNat;rw [ZxU];by_cases c:6≤b∧b≤40∧0≤a
 ·obtain ⟨c,d,e⟩:=c;have f:P1 .shl .i64 1 b=2^b.toNat:=Zyr (by omega);have g:Zy ((0:Int)≤b)=fun (x:Option Bool)=>x:=funext fun x=>Zg (by omega) x;have h:Zy (((2:Int)^b.toNat)≠0)=fun (x:Option Bool)=>x:=funext fun x=>Zg (by omega) x;simp only [f,g,h,Zj9 e,Zzw d]
  repeat' split
  all_goals (refine congrArg Xa ?_;rw [Zm];simp only [V3,CQ] at *; omega)
 ·have i:V3 a b=Xc:=by simp only [V3,decide_eq_false_iff_not];omega
  rw [i]
  repeat' split
  all_goals first | rfl | (exfalso;simp only [CQ] at *; omega)
def ZEl (a b:Int):ZtT a b=Xa (V3 a b):=by
 have l:=Yn b.toNat;rw [Zwh];by_cases c:6≤b∧b≤40∧0≤a
 ·obtain ⟨c,d,e⟩:=c;have f:Xi .u64 b=b:=Jc (by omega) (by omega);have g:P1 .shl .i64 1 b=2^b.toNat:=Zyr (by omega);have h:Zy ((0:Int)≤b)=fun (x:Option Bool)=>x:=funext fun x=>Zg (by omega) x;have i:Zy (((2:Int)^b.toNat)≠0)=fun (x:Option Bool)=>x:=funext fun x=>Zg (by omega) x;have j:=Znp d;simp only [f,g,h,i,Zj9 e]
  repeat' split
  all_goals (refine congrArg Xa ?_;rw [Zm];simp only [V3,CQ] at *; first | omega | (rw [JE (by omega) (by omega)] at *; omega))
 ·have k:V3 a b=Xc:=by simp only [V3,decide_eq_false_iff_not];omega
  rw [k]
  repeat' split
  all_goals first | rfl | (exfalso;simp only [CQ] at *; omega)
def ZcS (a b:Int):Int:=if V3 a b=Xb then a+2^b.toNat else 0
def Zdk {a b:Int} (h:V3 a b=Xb):6≤b∧b≤40∧0≤a∧a % 2^b.toNat=0∧a+2^b.toNat≤1099511627776:=by simpa [V3] using h
def Zve {a b:Int} (h:V3 a b=Xb):P1 .add .i64 a (P1 .shl .i64 1 b)=ZcS a b:=by
 obtain ⟨c,d,e,f,g⟩:=Zdk h;have:=Yn b.toNat;rw [Zyr (by omega),JE (by omega) (by omega),ZcS,P4 h]
def ZCf (a b c d:Int):Bool:=V3 a b&&V3 c d&&decide (a < ZcS c d)&&decide (c < ZcS a b)
def inB (a b c d:Int):Bool:=V3 a b&&V3 c d&&decide (a≤c)&&decide (ZcS c d≤ZcS a b)
structure Cap where
 kind:Int
 base:Int
 bits:Int
 rights:Int
 width:Int
 level:Int
 device:Bool
def ZJ1 (k b s r w l:Int) (d:Bool):ZIf k b s r w l d=Xa (b,s):=ZwF ..
def ZtS (k b s r w l:Int) (d:Bool):Zpo k b s r w l d=Xa (b,s):=Zuq ..
def YH (c:Cap):Bool:=Wx c.kind c.bits&&V3 c.base c.bits&&decide (0≤c.rights∧c.rights≤7)&&(if c.kind=3 then ZcT c.width c.level else decide (c.width=0∧c.level=0))&&(!c.device||decide (c.kind=1)||decide (c.kind=2))
def ZGy (k b s r w l:Int) (d:Bool):ZBC k b s r w l d=Xa (YH ⟨k,b,s,r,w,l,d⟩):=by
 rw [Zv0];simp only [ZKL,ZJ1,ZJC,ZKM,Xd]
 repeat' split
 all_goals (refine congrArg Xa ?_;rw [Zm];simp only [YH,CQ] at *; grind)
def ZBg (k b s r w l:Int) (d:Bool):ZxA k b s r w l d=Xa (YH ⟨k,b,s,r,w,l,d⟩):=by
 rw [Zwf];simp only [ZIX,ZtS,ZEl,ZI0,Xd]
 repeat' split
 all_goals (refine congrArg Xa ?_;rw [Zm];simp only [YH,CQ] at *; grind)
def ZoV (obj a b bits r w l:Int) (d:Bool) (j:Nat):List AV:=[I obj,I (a+j*b),I bits,I r,I w,I l,B d]
def KA (obj a b bits r w l:Int) (d:Bool) (n:Nat):List (List AV):=(Ue n).map (ZoV obj a b bits r w l d)
def Zgm (obj a b bits r w l:Int) (d:Bool) (n:Nat):KA obj a b bits r w l d (n+1)=KA obj a b bits r w l d n++[ZoV obj a b bits r w l d n]:=by
 simp [KA,List.range_succ]
def ZcL (obj a b bits r w l:Int) (d:Bool) (n:Nat):(KA obj a b bits r w l d n).length=n:=by simp [KA]
def JW {n:Nat} (h:n < 2^64):n < Zr:=by
 have:Zr=1208925819614629174706176:=rfl;omega
def WX {a b:List (List AV)} {k:Nat} (h:(a.length+b.length)*(k+1)≤1099511627776):Z6 a b k:=h
def Ztz {k b:Int} (h:Wx k b=Xb):6≤b∧b≤40:=by
 simp only [Wx,P5] at h;omega
def ZqW {c:Cap} (h:YH c=Xb):V3 c.base c.bits=Xb:=by
 simp only [YH,Xj] at h;exact h.1.1.1.2
def ZdK (c:Cap) (obj bits a b off cnt:Int):Int:=
 if YH c=Xc∨c.kind≠1 then 5
 else if P1 .and .i64 c.rights 2=0 then 8
 else if Wx obj bits=Xc∨(obj=3∧ZcT b a=Xc)∨cnt < 1∨8 < cnt∨off < 0 then 1
 else if c.device=Xb∧obj≠1∧obj≠2 then 5
 else if off % 2^bits.toNat≠0∨2^c.bits.toNat-cnt*2^bits.toNat < off∨(obj=1∧c.bits≤bits) then 6
 else 0
def Zaj (c:Cap) (obj bits a b off cnt:Int):List (List AV):=
 if ZdK c obj bits a b off cnt=0 then KA obj (c.base+off) (2^bits.toNat) bits c.rights (if obj=3 then b else 0) (if obj=3 then a else 0) c.device cnt.toNat else []
def Zle {c:Cap} {obj bits a b off cnt e:Int} (d:e≠0) (h:ZdK c obj bits a b off cnt=e) :
  Xa (E0,e)=Xa (Zaj c obj bits a b off cnt,ZdK c obj bits a b off cnt):=by
 simp only [Zaj,h,P3 d]
def Zsq {c:Cap} {obj bits off cnt:Int} (d:YH c=Xb) (e:Wx obj bits=Xb) (k:1≤cnt) (l:cnt≤8) (m:0≤off) :
  P1 .shl .i64 1 bits=2^bits.toNat∧P1 .rem .i64 off (2^bits.toNat)=off % 2^bits.toNat∧P1 .shl .i64 1 c.bits=2^c.bits.toNat∧P1 .mul .i64 cnt (2^bits.toNat)=cnt*2^bits.toNat∧
   P1 .sub .i64 (2^c.bits.toNat) (cnt*2^bits.toNat)=2^c.bits.toNat-cnt*2^bits.toNat∧(2:Int)^bits.toNat≠0∧0≤bits∧0≤c.bits∧0≤c.base∧c.base+2^c.bits.toNat≤1099511627776∧
   0 < (2:Int)^bits.toNat∧(2:Int)^bits.toNat≤1099511627776∧(2:Int)^bits.toNat≤cnt*2^bits.toNat∧0 < (2:Int)^c.bits.toNat∧bits≤40∧c.bits≤40:=by
 obtain ⟨n,a⟩:=Ztz e;obtain ⟨o,b,f,p,g⟩:=Zdk (ZqW d);have h:=Yn bits.toNat;have i:=Yn c.bits.toNat;have j:=Znp a;have q:=Znp b;have r:cnt*2^bits.toNat≤8*2^bits.toNat:=U9 (by omega) (by omega);have s:1*2^bits.toNat≤cnt*2^bits.toNat:=U9 (by omega) (by omega);refine ⟨Zyr (by omega),Zj9 (by omega),Zyr (by omega),Zfd (by omega) (by omega),Ze0 (by omega) (by omega),by omega,by omega,by omega,f,g,h,j,by omega,i,a,b⟩
def Zlp {γ:Type} {p:Prop} {_:Decidable p} (h:p):(Zy p:Option γ→Option γ)=fun x=>x:=funext fun x=>Zg h x
def Zlj:∃ f,Zr=f+1+1+1+1+1+1:=⟨Zr-6,by decide⟩
abbrev ZIS:List Sh:=[.int .i64,.int .i64,.int .i64]
def Vx (i:Id):Bool:=decide (0≤i.core∧i.core < 32∧1≤i.op∧i.op≤1073741824∧0≤i.part∧i.part < 8)
def s99 (a b c:Int):g99 a b c=Xa (Vx ⟨a,b,c⟩):=by
 rw [ZCV]
 repeat' split
 all_goals (refine congrArg Xa ?_;rw [Zm];simp only [Vx,CQ] at *; omega)
def ZLk (a:Int):ZDB a=Xa Xc:=by
 rw [ZuK];simp [P0]
def Zuc (a b:Int):Int:=if a < b then -1 else if b < a then 1 else 0
def ZLw (a b:Int):ZAm a b=Xa (Zuc a b):=by
 rw [Zxg];simp only [ZLk,Xd,Xw,if_false];by_cases h1:a < b
 ·rw [P4 (by simp only [CQ];omega),Zuc,P4 h1]
 ·by_cases h2:b < a
  ·rw [P3 (by simp only [CQ];omega),P4 (by simp only [CQ];omega),Zuc,P3 h1,P4 h2]
  ·rw [P3 (by simp only [CQ];omega),P3 (by simp only [CQ];omega),Zuc,P3 h1,P3 h2]
def ZaL (x y z:Int):Int:=if x≠0 then x else if y≠0 then y else z
def ZKD (x y z:Int):ZEI (((E0++[[I x]])++[[I y]])++[[I z]])=Xa (ZaL x y z):=by
 obtain ⟨f,a⟩:=Zlj;have e:(((E0++[[I x]])++[[I y]])++[[I z]]) = [WS x,WS y,WS z]:=rfl;have b:P1 .add .i64 0 1=1:=by decide
 have c:P1 .add .i64 1 1=2:=by decide
 have d:P1 .add .i64 2 1=3:=by decide
 have g:(([WS x,WS y,WS z] : List (List AV)).length:Int)=3:=rfl;rw [ZvF,e,a,g];rw [Za6,P4 (by decide),Y2 (sh:=[.int .i64]) (cs:=WS x) (r:=x) _ (by decide) rfl rfl];by_cases hx:x=0
 ·rw [P3 (by simp only [CQ];omega),b,Za6,P4 (by decide),Y2 (sh:=[.int .i64]) (cs:=WS y) (r:=y) _ (by decide) rfl rfl];by_cases hy:y=0
  ·rw [P3 (by simp only [CQ];omega),c,Za6,P4 (by decide),Y2 (sh:=[.int .i64]) (cs:=WS z) (r:=z) _ (by decide) rfl rfl];by_cases hz:z=0
   ·rw [P3 (by simp only [CQ];omega),d,Za6,P3 (by decide)];simp [ZaL,hx,hy,hz]
   ·rw [P4 (by simp only [CQ];omega)];simp [ZaL,hx,hy]
  ·rw [P4 (by simp only [CQ];omega)];simp [ZaL,hx,hy]
 ·rw [P4 (by simp only [CQ];omega)];simp [ZaL,hx]
def ZJ4 (a b c d e f:Int):ZEY a b c d e f=Xa (ZaL (Zuc a d) (Zuc b e) (Zuc c f)):=by
 rw [Zxb];simp only [ZLw,Xd,ZKD]
def Zyx (a b c d e f:Int):Bool:=decide (a < d∨(a=d∧(b < e∨(b=e∧c < f))))
def ZJh (a b c d e f:Int):ZD1 a b c d e f=Xa (Zyx a b c d e f):=by
 rw [ZvR,ZJ4,Xd];refine congrArg Xa ?_;rw [Zm];simp only [Zyx,CQ,Zuc,ZaL]
 repeat' split
 all_goals omega
def ZX (l:List Id):(Ze l).length=l.length:=by simp [Ze]
def ZmH (l:List Id) (n:Nat):(Ze l).take n=Ze (l.take n):=by simp [Ze,Uq]
def ZCz {l:List Id} {i:Nat} {x:Id} (h:l[i]? = Xa x):(Ze l)[i]? = Xa (idc x):=by simp [Ze,h]
def Wj {γ:Type} {l:List Id} {i:Int} {x:Id} (k:(Int×Int×Int)→Option γ) (a:0≤i) (h:l[i.toNat]? = Xa x):Zj (Ze l) i ZIS k=k (x.core,x.op,x.part):=
 Y2 (sh:=ZIS) (r:=(x.core,x.op,x.part)) k a (ZCz h) rfl
def YV (a b c d e f:Int):((P0 .eql a d&&(P0 .eql b e&&(P0 .eql c f&&Xb)))=Xb)↔((⟨a,b,c⟩:Id)=⟨d,e,f⟩):=by
 simp only [CQ,Id.mk.injEq,and_true]
def ZK8 {l:List Id} (p:l.length < 2^63) (a b c:Int):∀ (j i d:Nat),l.length=i+j→j < d→∃ r,Zjk d (Ze l) a b c (l.length:Int) i=Xa r∧(0≤r↔(⟨a,b,c⟩:Id)∈l.drop i):=by
 intro j
 induction j with
 | zero =>
  intro i d h g;obtain ⟨f,rfl⟩:∃ f,d=f+1:=⟨d-1,by omega⟩;refine ⟨-1,by rw [Zjc,P3 (by simp only [CQ];omega)],?_⟩;rw [Up (by omega)];simp
 | succ j ih =>
  intro i d h g;obtain ⟨f,rfl⟩:∃ f,d=f+1:=⟨d-1,by omega⟩;have k:i < l.length:=by omega
  have e:l[(i:Int).toNat]? = Xa l[i]:=by simp
  have m:P1 .add .i64 i 1=((i+1:Nat):Int):=by rw [JE (by omega) (by omega)];omega
  rw [Zjc,P4 (by simp only [CQ];omega),Wj _ (by omega) e,m,UF k];by_cases he:(⟨a,b,c⟩:Id)=l[i]
  ·refine ⟨i,?_,?_⟩
   ·rw [P4];rw [YV];exact he
   ·rw [Xs];exact ⟨fun _=>.inl he,fun _=>by omega⟩
  ·obtain ⟨r,n,o⟩:=ih (i+1) f (by omega) (by omega);refine ⟨r,?_,?_⟩
   ·rw [P3,n];rw [YV];exact he
   ·rw [o,Xs];simp [he]
def ZJR (l:List Id) (f:l.length < 2^63) (a b c:Int):ZGN (Ze l) a b c=Xa (l.contains ⟨a,b,c⟩):=by
 obtain ⟨r,g,e⟩:=ZK8 f a b c l.length 0 Zr (by omega) (JW (by omega));rw [ZuP,ZuQ,ZX];have d:Zjk Zr (Ze l) a b c (l.length:Int) 0=Xa r:=g;rw [d,Xd];refine congrArg Xa ?_;rw [Zm];simp only [CQ,UZ];rw [X7] at e;exact e
structure Yc where
 id:Id
 path:List Id
 cap:Cap
def VG (n:Yc) (i:Nat):Bool:=match n.path[i]? with | none=>Xb | some x=>Vx x&&decide (x≠n.id)&&!(n.path.take i).contains x
def ZD (n:Yc):Bool:=Vx n.id&&YH n.cap&&decide (n.path.length≤8)&&(Ue n.path.length).all (VG n)
def l95 (n:Yc) (l:n.path.length < 2^63):∀ (j i a:Nat),n.path.length=i+j→j < a→
  ZrM a n.id.core n.id.op n.id.part (Ze n.path) n.cap.kind n.cap.base n.cap.bits n.cap.rights n.cap.width n.cap.level n.cap.device (Ze n.path) (n.path.length:Int) i=Xa ((XW i j).all (VG n)):=by
 intro j
 induction j with
 | zero =>
  intro i a h d;obtain ⟨f,rfl⟩:∃ f,a=f+1:=⟨a-1,by omega⟩;rw [Zmq,P3 (by simp only [CQ];omega)];rfl
 | succ j ih =>
  intro i a h d;obtain ⟨f,rfl⟩:∃ f,a=f+1:=⟨a-1,by omega⟩;have e:i < n.path.length:=by omega
  have b:n.path[(i:Int).toNat]? = Xa n.path[i]:=by simp
  have g:P1 .add .i64 i 1=((i+1:Nat):Int):=by rw [JE (by omega) (by omega)];omega
  have k:VG n i=(Vx n.path[i]&&decide (n.path[i]≠n.id)&&!(n.path.take i).contains n.path[i]):=by
   unfold VG;rw [Xp e]
  have c:(n.path.take i).length < 2^63:=by rw [X5];omega
  rw [Zmq,P4 (by simp only [CQ];omega),Wj _ (by omega) b,g,Ti,XU,k];simp only [s99,Xd]
  cases h1:Vx n.path[i] with
  | false => simp
  | true =>
   rw [P3 (by simp)];by_cases h2:n.path[i]=n.id
   ·rw [P4 (by rw [YV];exact h2)];simp [h2]
   ·rw [P3 (by rw [YV];exact h2),Zg (by omega),Zg (by rw [ZX];omega),Uk,ZmH,ZJR _ c,Xd]
    cases h3:(n.path.take i).contains n.path[i] with
    | true => simp
    | false =>
     rw [P3 (by simp)];have:=ih (i+1) f (by omega) (by omega);rw [this];simp [h2]
def s95 (n:Yc) (a:n.path.length < 2^63):g95 n.id.core n.id.op n.id.part (Ze n.path) n.cap.kind n.cap.base n.cap.bits n.cap.rights n.cap.width n.cap.level n.cap.device=Xa (ZD n):=by
 rw [ZCX];simp only [s99,ZGy,Xd,ZX];unfold ZD
 cases h1:Vx n.id with
 | false => simp [show (⟨n.id.core, n.id.op, n.id.part⟩ : Id) = n.id from rfl, h1]
 | true =>
  cases h2:YH n.cap with
  | false => simp [show (⟨n.id.core, n.id.op, n.id.part⟩ : Id) = n.id from rfl, h1, show (⟨n.cap.kind, n.cap.base, n.cap.bits, n.cap.rights, n.cap.width, n.cap.level, n.cap.device⟩ : Cap) = n.cap from rfl, h2]
  | true =>
   rw [P3 (by simp),P3 (by simp)];by_cases h3:n.path.length≤8
   ·rw [P3 (by simp only [CQ];omega)];have:=l95 n a n.path.length 0 Zr (by omega) (JW (by omega));have e:(XW 0 n.path.length)=Ue n.path.length:=(List.range_eq_range' ..).symm;rw [e] at this;refine this.trans ?_;simp [h3]
   ·rw [P4 (by simp only [CQ];omega)];simp [h3]
def Zyb (a b c:Int):ZtN a b c=Xa (Vx ⟨a,b,c⟩):=by
 rw [Zu5]
 repeat' split
 all_goals (refine congrArg Xa ?_;rw [Zm];simp only [Vx,CQ] at *; omega)
def l78 {l:List Id} (n:l.length < 2^63) (a b c:Int):∀ (j i d:Nat),l.length=i+j→j < d→ZrS d (Ze l) a b c i=Xa ((l.drop i).contains ⟨a,b,c⟩):=by
 intro j
 induction j with
 | zero =>
  intro i d h g;obtain ⟨f,rfl⟩:∃ f,d=f+1:=⟨d-1,by omega⟩;rw [ZmK,P3 (by simp only [CQ,ZX];omega),Up (by omega)];rfl
 | succ j ih =>
  intro i d h g;obtain ⟨f,rfl⟩:∃ f,d=f+1:=⟨d-1,by omega⟩;have k:i < l.length:=by omega
  have e:l[(i:Int).toNat]? = Xa l[i]:=by simp
  have m:P1 .add .i64 i 1=((i+1:Nat):Int):=by rw [JE (by omega) (by omega)];omega
  rw [ZmK,P4 (by simp only [CQ,ZX];omega),Wj _ (by omega) e,m,UF k,List.contains_cons];by_cases he:l[i]=(⟨a,b,c⟩:Id)
  ·rw [P4 (by rw [YV];exact he)];simp [he]
  ·rw [P3 (by rw [YV];exact he),ih (i+1) f (by omega) (by omega)];have:((⟨a,b,c⟩:Id) == l[i])=Xc:=by simp;exact fun h=>he h.symm
   rw [this,Bool.false_or]
def s78 (l:List Id) (d:l.length < 2^63) (a b c:Int):g78 (Ze l) a b c=Xa (l.contains ⟨a,b,c⟩):=by
 have:=l78 d a b c l.length 0 Zr (by omega) (JW (by omega));rw [Zzb];exact this
def Zcl (n:Yc) (i:Nat):Bool:=match n.path[i]? with | none=>Xb | some x=>Vx x&&!(n.path.take i).contains x
def ZnN (n:Yc):ZD n=(Vx n.id&&YH n.cap&&decide (n.path.length≤8)&&(!n.path.contains n.id&&(Ue n.path.length).all (Zcl n))):=by
 unfold ZD;congr 1;rw [Zm];simp only [Xj,Xo,UC,Xu,← XE,UZ];constructor
 ·intro h;refine ⟨fun b=>?_,fun i a=>?_⟩
  ·obtain ⟨i,a⟩:=List.mem_iff_getElem?.1 b;have:=h i (List.getElem?_eq_some_iff.1 a).1;unfold VG at this;rw [a] at this;simp at this
  ·have:=h i a;unfold VG at this;unfold Zcl;rw [Xp a] at this ⊢;simp only [Xj] at this ⊢;exact ⟨this.1.1,this.2⟩
 ·intro ⟨c,d⟩ i a;have:=d i a;unfold Zcl at this;unfold VG;rw [Xp a] at this ⊢;simp only [Xj,P5] at this ⊢;exact ⟨⟨this.1,fun e=>c (e ▸ Xq a)⟩,this.2⟩
def l61 (n:Yc) (l:n.path.length < 2^63):∀ (j i a:Nat),n.path.length=i+j→j < a→
  Ztn a n.id.core n.id.op n.id.part (Ze n.path) n.cap.kind n.cap.base n.cap.bits n.cap.rights n.cap.width n.cap.level n.cap.device i=Xa ((XW i j).all (Zcl n)):=by
 intro j
 induction j with
 | zero =>
  intro i a h d;obtain ⟨f,rfl⟩:∃ f,a=f+1:=⟨a-1,by omega⟩;rw [Znw,P3 (by simp only [CQ,ZX];omega)];rfl
 | succ j ih =>
  intro i a h d;obtain ⟨f,rfl⟩:∃ f,a=f+1:=⟨a-1,by omega⟩;have e:i < n.path.length:=by omega
  have b:n.path[(i:Int).toNat]? = Xa n.path[i]:=by simp
  have g:P1 .add .i64 i 1=((i+1:Nat):Int):=by rw [JE (by omega) (by omega)];omega
  have k:Zcl n i=(Vx n.path[i]&&!(n.path.take i).contains n.path[i]):=by
   unfold Zcl;rw [Xp e]
  have c:(n.path.take i).length < 2^63:=by rw [X5];omega
  rw [Znw,P4 (by simp only [CQ,ZX];omega),Wj _ (by omega) b,g,Ti,XU,k];simp only [Zyb,Xd]
  cases h1:Vx n.path[i] with
  | false => simp
  | true =>
   rw [P3 (by simp),Zg (by omega),Zg (by rw [ZX];omega),Wj _ (by omega) b,Uk,ZmH,s78 _ c,Xd]
   cases h3:(n.path.take i).contains n.path[i] with
   | true => simp
   | false =>
    rw [P3 (by simp)];have:=ih (i+1) f (by omega) (by omega);rw [this];simp
def s61 (n:Yc) (a:n.path.length < 2^63):g61 n.id.core n.id.op n.id.part (Ze n.path) n.cap.kind n.cap.base n.cap.bits n.cap.rights n.cap.width n.cap.level n.cap.device=Xa (ZD n):=by
 rw [ZCe,ZnN];simp only [Zyb,ZBg,Xd,ZX,s78 _ a]
 cases h1:Vx n.id with
 | false => simp [show (⟨n.id.core, n.id.op, n.id.part⟩ : Id) = n.id from rfl, h1]
 | true =>
  cases h2:YH n.cap with
  | false => simp [show (⟨n.id.core, n.id.op, n.id.part⟩ : Id) = n.id from rfl, h1, show (⟨n.cap.kind, n.cap.base, n.cap.bits, n.cap.rights, n.cap.width, n.cap.level, n.cap.device⟩ : Cap) = n.cap from rfl, h2]
  | true =>
   rw [P3 (by simp),P3 (by simp)];by_cases h3:n.path.length≤8
   ·rw [P3 (by simp only [CQ];omega)]
    cases h4:n.path.contains n.id with
    | true => simp
    | false =>
     rw [P3 (by simp)];have:=l61 n a n.path.length 0 Zr (by omega) (JW (by omega));have e:(XW 0 n.path.length)=Ue n.path.length:=(List.range_eq_range' ..).symm;rw [e] at this;refine this.trans ?_;simp [h3]
   ·rw [P4 (by simp only [CQ];omega)];simp [h3]
def l69 {l m:List Id} (n:l.length < 2^63) (o:l.length=m.length):∀ (j i a:Nat),l.length=i+j→j < a→Ztj a (Ze l) (Ze m) i=Xa (decide (l.drop i=m.drop i)):=by
 intro j
 induction j with
 | zero =>
  intro i a h e;obtain ⟨f,rfl⟩:∃ f,a=f+1:=⟨a-1,by omega⟩;rw [Zm7,P3 (by simp only [CQ,ZX];omega),Up (by omega),Up (by omega)];rfl
 | succ j ih =>
  intro i a h e;obtain ⟨f,rfl⟩:∃ f,a=f+1:=⟨a-1,by omega⟩;have g:i < l.length:=by omega
  have c:i < m.length:=by omega
  have d:l[(i:Int).toNat]? = Xa l[i]:=by simp
  have b:m[(i:Int).toNat]? = Xa m[i]:=by simp
  have k:P1 .add .i64 i 1=((i+1:Nat):Int):=by rw [JE (by omega) (by omega)];omega
  rw [Zm7,P4 (by simp only [CQ,ZX];omega),Wj _ (by omega) d,Wj _ (by omega) b,k,UF g,UF c];by_cases he:l[i]=m[i]
  ·rw [P3 (by rw [Xu,← XE,YV];exact fun h=>h he),ih (i+1) f (by omega) (by omega)];simp only [he,List.cons.injEq,true_and]
  ·rw [P4 (by rw [Xu,← XE,YV];exact he)];simp only [List.cons.injEq,he,false_and,decide_false]
def s69 (l m:List Id) (a:l.length < 2^63) (c:m.length < 2^63):g69 (Ze l) (Ze m)=Xa (decide (l=m)):=by
 rw [ZAb,ZX,ZX];by_cases h:l.length=m.length
 ·rw [P3 (by simp only [CQ];omega)];have:=l69 a h l.length 0 Zr (by omega) (JW (by omega));rw [X7,X7] at this;exact this
 ·rw [P4 (by simp only [CQ];omega)];have:¬ l=m:=fun b=>h (by rw [b]);simp [this]
def Yi {n:Nat} (h:n < 2^63):n+1 < Zr:=by
 have:(2:Nat)^64≤Zr:=by decide
 omega
def ZS {i n:Nat} (h:i < n) (a:n < 2^63):P1 .add .i64 (i:Int) 1=((i+1:Nat):Int):=by
 rw [JE (by omega) (by omega)];omega
def Z4 {i n:Nat} (h:i < n):(P0 .lss (i:Int) (n:Int))=Xb:=by
 simp only [CQ];omega
def Z3 {i n:Nat} (h:n≤i):¬ (P0 .lss (i:Int) (n:Int))=Xb:=by
 simp only [CQ];omega
def Jj {γ:Type} {F:Nat→Int→Option γ} {n:Nat} {fin bad:Option γ} (p:Nat→Bool) (l:n < 2^63) (c:Nat) (m:c≤1)
  (d:∀ k i:Nat,c≤i→i < n→F (k+1) (i:Int)=if p i=Xb then F k ((i+1:Nat):Int) else bad)
  (b:∀ k i:Nat,n≤i→F (k+1) (i:Int)=fin):F Zr (c:Int)=if (XW c (n-c)).all p=Xb then fin else bad:=by
 have e:∀ (j i a:Nat),c≤i→n≤i+j→j < a→F a (i:Int)=if (XW i (n-i)).all p=Xb then fin else bad:=by
  intro j
  induction j with
  | zero =>
   intro i a g h o;obtain ⟨f,rfl⟩:∃ f,a=f+1:=⟨a-1,by omega⟩;rw [b f i (by omega),show n-i=0 by omega];rfl
  | succ j ih =>
   intro i a g h o;obtain ⟨f,rfl⟩:∃ f,a=f+1:=⟨a-1,by omega⟩;by_cases hi:i < n
   ·rw [d f i g hi,show n-i=(n-(i+1))+1 by omega,Ti,XU]
    cases hp:p i with
    | true => rw [P4 rfl, ih (i + 1) f (by omega) (by omega) (by omega), XP]
    | false => rw [P3 UE, Bool.false_and, P3 UE]
   ·rw [b f i (by omega),show n-i=0 by omega];rfl
 exact e n c Zr (Xr _) (by omega) (by have:=Yi l;omega)
def Kc {F:Nat→Int→Option Int} {n:Nat} (p:Nat→Bool) (e:n < 2^63)
  (c:∀ k i:Nat,i < n→F (k+1) (i:Int)=if p i=Xb then Xa (i:Int) else F k ((i+1:Nat):Int))
  (b:∀ k i:Nat,n≤i→F (k+1) (i:Int)=Xa (-1)):∃ r,F Zr 0=Xa r∧P0 .geq r 0=(XW 0 n).any p:=by
 have d:∀ (j i a:Nat),n≤i+j→j < a→∃ r,F a (i:Int)=Xa r∧P0 .geq r 0=(XW i (n-i)).any p:=by
  intro j
  induction j with
  | zero =>
   intro i a h g;obtain ⟨f,rfl⟩:∃ f,a=f+1:=⟨a-1,by omega⟩;rw [b f i (by omega),show n-i=0 by omega];exact ⟨_,rfl,rfl⟩
  | succ j ih =>
   intro i a h g;obtain ⟨f,rfl⟩:∃ f,a=f+1:=⟨a-1,by omega⟩;by_cases hi:i < n
   ·rw [c f i hi,show n-i=(n-(i+1))+1 by omega,Ti,List.any_cons]
    cases hp:p i with
    | true =>
     rw [P4 rfl,Uo];refine ⟨_,rfl,?_⟩;simp only [CQ];omega
    | false => rw [P3 UE, Bool.false_or]; exact ih (i + 1) f (by omega) (by omega)
   ·rw [b f i (by omega),show n-i=0 by omega];exact ⟨_,rfl,rfl⟩
 have:=d n 0 Zr (by omega) (by have:=Yi e;omega);simpa using this
def atB {a:Type} (q:a→Bool) (l:List a) (i:Nat):Bool:=match l[i]? with | some x=>q x | none=>Xb
def Jz {a:Type} (q:a→Bool) {l:List a} {i:Nat} (h:i < l.length):atB q l i=q l[i]:=by
 unfold atB;rw [Xp h]
def ZcN {c:Type} (q:c→Bool) (l:List c):(XW 0 l.length).all (atB q l)=l.all q:=by
 rw [Zm,Xo,Xo];constructor
 ·intro h x d;obtain ⟨i,b,rfl⟩:=Uv d;have:=h i (by simp [List.mem_range',b])
  rwa [Jz q b] at this
 ·intro h i b;have a:i < l.length:=by simpa [List.mem_range'] using b
  rw [Jz q a];exact h _ (Xq a)
def WM {a:Type} (q:a→Bool) (l:List a):(XW 0 l.length).any (fun i=>!atB q l i) = !(l.all q):=by
 rw [← ZcN q l,T0];simp
def Wi {c:Type} (d:c→c→Bool) (l:List c):Nat→Bool
 | 0 => Xb
 | j + 1 => match l[j]?, l[j + 1]? with | some a, Xa b => d a b | _, _ => Xb
def Ve {a:Type} (b:a→a→Bool) (l:List a):Bool:=(XW 0 l.length).all (Wi b l)
def KS {c:Type} (d:c→c→Bool) {l:List c} {j:Nat} (h:j+1 < l.length):Wi d l (j+1)=d l[j] l[j+1]:=by
 show (match l[j]?,l[j+1]? with | some a,Xa b=>d a b | _,_=>Xb)=_;rw [Xp h,Xp (show j < l.length by omega)]
def ZBj {b:Type} (c:b→b→Bool) (l:List b):(XW 1 (l.length-1)).all (Wi c l)=Ve c l:=by
 unfold Ve
 cases l with
 | nil => rfl
 | cons a r => rw [show (a :: r).length = ((a :: r).length - 1) + 1 from rfl, Ti, XU]; rfl
def Zkh {b:Type} (l:List b) (p q:b→Bool):l.all (fun i=>p i&&q i)=(l.all p&&l.all q):=by
 induction l with
 | nil => rfl
 | cons a r ih => simp only [XU, ih]; cases p a <;> cases q a <;> cases r.all p <;> rfl
def Zed {a:Type} (q:a→Bool) (b:a→a→Bool) (l:List a):(XW 0 l.length).all (fun i=>atB q l i&&Wi b l i)=(l.all q&&Ve b l):=by
 rw [Zkh,ZcN];rfl
structure Call where
 kind:Int
 slot:Int
 dest:Int
 core:Int
 mask:Int
 object:Int
 bits:Int
 level:Int
 offset:Int
 count:Int
 index:Int
 addr:Int
structure Req where
 id:Id
 call:Call
 region:Int
 width:Int
 src:Yc
structure YN where
 node:Yc
 op:Int
 lock:Id
structure Zaq where
 region:Int
 op:Id
structure Ans where
 op:Int
 err:Int
structure ZY where
 core:Int
 slot:Int
 node:Yc
structure ZeF where
 region:Int
 to:Int
structure Vu where
 number:Int
 members:List Int
 owners:List Int
structure JD where
 slots:List YN
 pending:List Req
 marks:List Zaq
 answers:List Ans
 entries:List ZY
 commits:List Id
structure Js where
 core:Int
 view:Vu
 state:JD
 ready:Bool
 next:Vu
 proposal:JD
def YM (n:Yc):List AV:=[I n.id.core,I n.id.op,I n.id.part,.slice Xc 3 (Ze n.path),I n.cap.kind,I n.cap.base,I n.cap.bits,I n.cap.rights,I n.cap.width,I n.cap.level,B n.cap.device]
def Jq (r:Req):List AV:=[I r.id.core,I r.id.op,I r.id.part,I r.call.kind,I r.call.slot,I r.call.dest,I r.call.core,I r.call.mask,I r.call.object,I r.call.bits,I r.call.level,I r.call.offset,I r.call.count,I r.call.index,I r.call.addr,I r.region,I r.width,I r.src.id.core,I r.src.id.op,I r.src.id.part,.slice Xc 3 (Ze r.src.path),I r.src.cap.kind,I r.src.cap.base,I r.src.cap.bits,I r.src.cap.rights,I r.src.cap.width,I r.src.cap.level,B r.src.cap.device]
def Zv (s:YN):List AV:=[I s.node.id.core,I s.node.id.op,I s.node.id.part,.slice Xc 3 (Ze s.node.path),I s.node.cap.kind,I s.node.cap.base,I s.node.cap.bits,I s.node.cap.rights,I s.node.cap.width,I s.node.cap.level,B s.node.cap.device,I s.op,I s.lock.core,I s.lock.op,I s.lock.part]
def Zz (m:Zaq):List AV:=[I m.region,I m.op.core,I m.op.op,I m.op.part]
def JB (a:Ans):List AV:=[I a.op,I a.err]
def YE (a:ZeF):List AV:=[I a.region,I a.to]
def Zi (e:ZY):List AV:=[I e.core,I e.slot,I e.node.id.core,I e.node.id.op,I e.node.id.part,.slice Xc 3 (Ze e.node.path),I e.node.cap.kind,I e.node.cap.base,I e.node.cap.bits,I e.node.cap.rights,I e.node.cap.width,I e.node.cap.level,B e.node.cap.device]
abbrev Zpq:List Sh:=[.int .i64,.int .i64,.int .i64,.slice 3,.int .i64,.int .i64,.int .i64,.int .i64,.int .i64,.int .i64,.bool]
abbrev Zu3:List Sh:=[.int .i64,.int .i64,.int .i64,.int .i64,.int .i64,.int .i64,.int .i64,.int .i64,.int .i64,.int .i64,.int .i64,.int .i64,.int .i64,.int .i64,.int .i64,.int .i64,.int .i64,.int .i64,.int .i64,.int .i64,.slice 3,.int .i64,.int .i64,.int .i64,.int .i64,.int .i64,.int .i64,.bool]
abbrev Zrp:List Sh:=[.int .i64,.int .i64,.int .i64,.slice 3,.int .i64,.int .i64,.int .i64,.int .i64,.int .i64,.int .i64,.bool,.int .i64,.int .i64,.int .i64,.int .i64]
abbrev Zeh:List Sh:=[.int .i64,.int .i64,.int .i64,.int .i64,.int .i64,.slice 3,.int .i64,.int .i64,.int .i64,.int .i64,.int .i64,.int .i64,.bool]
def Ziv (n:Yc):ShsT Zpq:=(n.id.core,n.id.op,n.id.part,Ze n.path,n.cap.kind,n.cap.base,n.cap.bits,n.cap.rights,n.cap.width,n.cap.level,n.cap.device)
def ZrE (r:Req):ShsT Zu3:=(r.id.core,r.id.op,r.id.part,r.call.kind,r.call.slot,r.call.dest,r.call.core,r.call.mask,r.call.object,r.call.bits,r.call.level,r.call.offset,r.call.count,r.call.index,r.call.addr,r.region,r.width,r.src.id.core,r.src.id.op,r.src.id.part,Ze r.src.path,r.src.cap.kind,r.src.cap.base,r.src.cap.bits,r.src.cap.rights,r.src.cap.width,r.src.cap.level,r.src.cap.device)
def Ze7 (s:YN):ShsT Zrp:=(s.node.id.core,s.node.id.op,s.node.id.part,Ze s.node.path,s.node.cap.kind,s.node.cap.base,s.node.cap.bits,s.node.cap.rights,s.node.cap.width,s.node.cap.level,s.node.cap.device,s.op,s.lock.core,s.lock.op,s.lock.part)
def Yx (e:ZY):ShsT Zeh:=(e.core,e.slot,e.node.id.core,e.node.id.op,e.node.id.part,Ze e.node.path,e.node.cap.kind,e.node.cap.base,e.node.cap.bits,e.node.cap.rights,e.node.cap.width,e.node.cap.level,e.node.cap.device)
def Y3 {a γ:Type} {f:a→List AV} {sh:List Sh} {v:a→ShsT sh} (b:∀ x,Zqa sh (f x)=Xa (v x)) {l:List a} {i:Nat} (h:i < l.length) (k:ShsT sh→Option γ):Zj (l.map f) (i:Int) sh k=k (v l[i]):=by
 refine Y2 k (by omega) (cs:=f l[i]) ?_ (b _);rw [Uk,Xy,Xp h];rfl
def Y8 {γ:Type} {l:List Yc} {i:Nat} (h:i < l.length) (k:ShsT Zpq→Option γ):Zj (l.map YM) (i:Int) Zpq k=k (Ziv l[i]):=Y3 (fun _=>rfl) h k
def JZ {γ:Type} {l:List Req} {i:Nat} (h:i < l.length) (k:ShsT Zu3→Option γ):Zj (l.map Jq) (i:Int) Zu3 k=k (ZrE l[i]):=Y3 (fun _=>rfl) h k
def JQ {γ:Type} {l:List YN} {i:Nat} (h:i < l.length) (k:ShsT Zrp→Option γ):Zj (l.map Zv) (i:Int) Zrp k=k (Ze7 l[i]):=Y3 (fun _=>rfl) h k
def Zu {γ:Type} {l:List ZY} {i:Nat} (h:i < l.length) (k:ShsT Zeh→Option γ):Zj (l.map Zi) (i:Int) Zeh k=k (Yx l[i]):=Y3 (fun _=>rfl) h k
def JN {γ:Type} {l:List Zaq} {i:Nat} (h:i < l.length) (k:(Int×Int×Int×Int)→Option γ):Zj (l.map Zz) (i:Int) [.int .i64,.int .i64,.int .i64,.int .i64] k=k (l[i].region,l[i].op.core,l[i].op.op,l[i].op.part):=Y3 (sh:=[.int .i64,.int .i64,.int .i64,.int .i64]) (v:=fun x=>(x.region,x.op.core,x.op.op,x.op.part)) (fun _=>rfl) h k
def J7 {γ:Type} {l:List Ans} {i:Nat} (h:i < l.length) (k:(Int×Int)→Option γ):Zj (l.map JB) (i:Int) [.int .i64,.int .i64] k=k (l[i].op,l[i].err):=Y3 (sh:=[.int .i64,.int .i64]) (v:=fun x=>(x.op,x.err)) (fun _=>rfl) h k
def Yt {γ:Type} {l:List ZeF} {i:Nat} (h:i < l.length) (k:(Int×Int)→Option γ):Zj (l.map YE) (i:Int) [.int .i64,.int .i64] k=k (l[i].region,l[i].to):=Y3 (sh:=[.int .i64,.int .i64]) (v:=fun x=>(x.region,x.to)) (fun _=>rfl) h k
def VC {γ:Type} {l:List Id} {i:Nat} (h:i < l.length) (k:(Int×Int×Int)→Option γ):Zj (Ze l) (i:Int) [.int .i64,.int .i64,.int .i64] k=k (l[i].core,l[i].op,l[i].part):=Y3 (f:=idc) (sh:=[.int .i64,.int .i64,.int .i64]) (v:=fun x=>(x.core,x.op,x.part)) (fun _=>rfl) h k
def Z2 {γ:Type} {l:List Int} {i:Nat} (h:i < l.length) (k:Int→Option γ):Zj (Zd l) (i:Int) [.int .i64] k=k l[i]:=Y3 (f:=WS) (sh:=[.int .i64]) (v:=fun x=>x) (fun _=>rfl) h k
def KY (i:Id):(⟨i.core,i.op,i.part⟩:Id)=i:=rfl
def Zw (z:Int):Bool:=decide (0≤z∧z < 32)
def Jo (z:Int):Bool:=decide (0≤z∧z < 16)
def JO (z:Int):Bool:=decide (0≤z∧z < 64)
def Zcq (z:Int):Bool:=decide (0≤z∧z≤99)
def Za4 (i:Id):Bool:=Vx i&&decide (i.part=0)
def s34 (z:Int):g34 z=Xa (Zw z):=by
 rw [ZCC]
 repeat' split
 all_goals (refine congrArg Xa ?_;rw [Zm];simp only [Zw,CQ] at *; omega)
def s51 (z:Int):g51 z=Xa (Zw z):=by
 rw [ZyE]
 repeat' split
 all_goals (refine congrArg Xa ?_;rw [Zm];simp only [Zw,CQ] at *; omega)
def s89 (z:Int):g89 z=Xa (Jo z):=by
 rw [ZCd]
 repeat' split
 all_goals (refine congrArg Xa ?_;rw [Zm];simp only [Jo,CQ] at *; omega)
def s62 (z:Int):g62 z=Xa (Jo z):=by
 rw [ZBy]
 repeat' split
 all_goals (refine congrArg Xa ?_;rw [Zm];simp only [Jo,CQ] at *; omega)
def s96 (z:Int):g96 z=Xa (JO z):=by
 rw [Zz6]
 repeat' split
 all_goals (refine congrArg Xa ?_;rw [Zm];simp only [JO,CQ] at *; omega)
def s92 (z:Int):g92 z=Xa (Zcq z):=by
 rw [Zzf]
 repeat' split
 all_goals (refine congrArg Xa ?_;rw [Zm];simp only [Zcq,CQ] at *; omega)
def s54 (z:Int):g54 z=Xa (Zcq z):=by
 rw [ZyI]
 repeat' split
 all_goals (refine congrArg Xa ?_;rw [Zm];simp only [Zcq,CQ] at *; omega)
def s91 (i:Id):g91 i.core i.op i.part=Xa (Za4 i):=by
 rw [ZzU,s99,Xd,KY]
 repeat' split
 all_goals (refine congrArg Xa ?_;rw [Zm];simp only [Za4,CQ] at *; grind)
def s53 (i:Id):g53 i.core i.op i.part=Xa (Za4 i):=by
 rw [ZyV,Zyb,Xd,KY]
 repeat' split
 all_goals (refine congrArg Xa ?_;rw [Zm];simp only [Za4,CQ] at *; grind)
def ZLd {l m:List Id} (b:l.length < 2^63) (h:l.length=m.length):Zei Zr (Ze l) (Ze m) (l.length:Int) 0=Xa (decide (l=m)):=by
 have:=Jj (F:=fun k i=>Zei k (Ze l) (Ze m) (l.length:Int) i) (n:=l.length) (fin:=Xa Xb) (bad:=Xa Xc) (fun i=>decide (l[i]? = m[i]?)) b 0 (by omega)
  (fun k i _ a=>by
   have c:i < m.length:=by omega
   show Zei (k+1) _ _ _ _=_;rw [Zjy,P4 (Z4 a),VC a,VC c,ZS a b];rw [Xp a,Xp c];by_cases he:l[i]=m[i]
   ·rw [P3 (by rw [Xu,← XE,YV];exact fun h=>h he),P4 (by simp [he])]
   ·rw [P4 (by rw [Xu,← XE,YV];exact he),P3 (by simp [he])])
  (fun k i a=>by show Zei (k+1) _ _ _ _=_;rw [Zjy,P3 (Z3 a)])
 refine this.trans ?_
 have e:(XW 0 (l.length-0)).all (fun i=>decide (l[i]? = m[i]?))=decide (l=m):=by
  rw [Zm,Xo,P5];constructor
  ·intro d;refine Tc fun i=>?_;by_cases a:i < l.length
   ·exact of_decide_eq_true (d i (by simp [List.mem_range',a]))
   ·rw [UH (by omega),UH (by omega)]
  ·rintro rfl i _;exact decide_eq_true rfl
 rw [e]
 cases decide (l=m)<;>rfl
def ZKo (l m:List Id) (a:l.length < 2^63):ZIh (Ze l) (Ze m)=Xa (decide (l=m)):=by
 rw [Zvu,ZX,ZX];by_cases h:l.length=m.length
 ·rw [P3 (by simp [P0,h]),ZLd a h]
 ·rw [P4 (by simp [P0];omega)];have:¬ l=m:=fun b=>h (by rw [b]);simp [this]
def K0 (a b:Yc):Bool:=decide (a.id=b.id)&&decide (a.cap.kind=b.cap.kind∧a.cap.base=b.cap.base∧a.cap.bits=b.cap.bits∧a.cap.rights=b.cap.rights∧a.cap.width=b.cap.width∧a.cap.level=b.cap.level∧a.cap.device=b.cap.device)&&decide (a.path=b.path)
def ZgP (a b:Cap):(((P0 .eql a.kind b.kind)&&((P0 .eql a.base b.base)&&((P0 .eql a.bits b.bits)&&((P0 .eql a.rights b.rights)&&((P0 .eql a.width b.width)&&((P0 .eql a.level b.level)&&((a.device == b.device)&&Xb)))))))=Xb)↔(a.kind=b.kind∧a.base=b.base∧a.bits=b.bits∧a.rights=b.rights∧a.width=b.width∧a.level=b.level∧a.device=b.device):=by
 simp only [CQ,beq_iff_eq,and_true]
def ZJJ (a b:Yc) (d:a.path.length < 2^63):ZxL a.id.core a.id.op a.id.part (Ze a.path) a.cap.kind a.cap.base a.cap.bits a.cap.rights a.cap.width a.cap.level a.cap.device b.id.core b.id.op b.id.part (Ze b.path) b.cap.kind b.cap.base b.cap.bits b.cap.rights b.cap.width b.cap.level b.cap.device=Xa (K0 a b):=by
 rw [ZwD,ZKo _ _ d,Xd];unfold K0;refine Jf (fun h=>?_) fun h=>?_
 ·rw [YV] at h;refine Jf (fun c=>?_) fun c=>?_
  ·rw [ZgP] at c;rw [decide_eq_true (show a.id=b.id from h),decide_eq_true c];rfl
  ·rw [ZgP] at c;rw [decide_eq_true (show a.id=b.id from h),decide_eq_false c];rfl
 ·rw [YV] at h;rw [decide_eq_false (show ¬ a.id=b.id from h)];rfl
def Zqx (a b:Yc) (d:a.path.length < 2^63) (e:b.path.length < 2^63):ZqO a.id.core a.id.op a.id.part (Ze a.path) a.cap.kind a.cap.base a.cap.bits a.cap.rights a.cap.width a.cap.level a.cap.device b.id.core b.id.op b.id.part (Ze b.path) b.cap.kind b.cap.base b.cap.bits b.cap.rights b.cap.width b.cap.level b.cap.device=Xa (K0 a b):=by
 rw [ZwS,s69 _ _ d e,Xd];unfold K0;refine Jf (fun h=>?_) fun h=>?_
 ·rw [YV] at h;refine Jf (fun c=>?_) fun c=>?_
  ·rw [ZgP] at c;rw [decide_eq_true (show a.id=b.id from h),decide_eq_true c];rfl
  ·rw [ZgP] at c;rw [decide_eq_true (show a.id=b.id from h),decide_eq_false c];rfl
 ·rw [YV] at h;rw [decide_eq_false (show ¬ a.id=b.id from h)];rfl
def Z5:Yc:=⟨⟨0,0,0⟩,[],⟨0,0,0,0,0,0,Xc⟩⟩
def Zvt (a:Yc) (b:a.path.length < 2^63):ZxL a.id.core a.id.op a.id.part (Ze a.path) a.cap.kind a.cap.base a.cap.bits a.cap.rights a.cap.width a.cap.level a.cap.device 0 0 0 E0 0 0 0 0 0 0 Xc=Xa (K0 a Z5):=ZJJ a Z5 b
def ZAL (a:Yc) (b:a.path.length < 2^63):ZqO a.id.core a.id.op a.id.part (Ze a.path) a.cap.kind a.cap.base a.cap.bits a.cap.rights a.cap.width a.cap.level a.cap.device 0 0 0 E0 0 0 0 0 0 0 Xc=Xa (K0 a Z5):=Zqx a Z5 b (by simp [Z5])
def Kl (r:Req):Bool:=Za4 r.id&&decide (1≤r.call.kind∧r.call.kind≤6)&&Jo r.region&&decide (r.width=32∨r.width=39)&&(if r.call.kind=1 then K0 r.src Z5 else ZD r.src)
def s90 (r:Req) (a:r.src.path.length < 2^63):g90 r.id.core r.id.op r.id.part r.call.kind r.call.slot r.call.dest r.call.core r.call.mask r.call.object r.call.bits r.call.level r.call.offset r.call.count r.call.index r.call.addr r.region r.width r.src.id.core r.src.id.op r.src.id.part (Ze r.src.path) r.src.cap.kind r.src.cap.base r.src.cap.bits r.src.cap.rights r.src.cap.width r.src.cap.level r.src.cap.device=Xa (Kl r):=by
 rw [ZzS];simp only [s91,s89,Zvt _ a,s95 _ a,Xd]
 repeat' split
 all_goals (refine congrArg Xa ?_;rw [Zm];simp only [Kl,CQ] at *; grind)
def s52 (r:Req) (a:r.src.path.length < 2^63):g52 r.id.core r.id.op r.id.part r.call.kind r.call.slot r.call.dest r.call.core r.call.mask r.call.object r.call.bits r.call.level r.call.offset r.call.count r.call.index r.call.addr r.region r.width r.src.id.core r.src.id.op r.src.id.part (Ze r.src.path) r.src.cap.kind r.src.cap.base r.src.cap.bits r.src.cap.rights r.src.cap.width r.src.cap.level r.src.cap.device=Xa (Kl r):=by
 rw [Zy9];simp only [s53,s62,ZAL _ a,s61 _ a,Xd]
 repeat' split
 all_goals (refine congrArg Xa ?_;rw [Zm];simp only [Kl,CQ] at *; grind)
def ZmP {γ:Type} {F:Nat→Int→Option γ} {n:Nat} {miss:γ} (d:Nat→γ) (p:Nat→Bool) (r:n < 2^63)
  (g:∀ k i:Nat,i < n→F (k+1) (i:Int)=if p i=Xb then Xa (d i) else F k ((i+1:Nat):Int))
  (c:∀ k i:Nat,n≤i→F (k+1) (i:Int)=Xa miss) :
  (∃ i,i < n∧p i=Xb∧(∀ j,j < i→p j=Xc)∧F Zr 0=Xa (d i))∨((∀ j,j < n→p j=Xc)∧F Zr 0=Xa miss):=by
 have l:∀ (j i a:Nat),n≤i+j→j < a→(∃ m,i≤m∧m < n∧p m=Xb∧(∀ j,i≤j→j < m→p j=Xc)∧F a (i:Int)=Xa (d m))∨((∀ j,i≤j→j < n→p j=Xc)∧F a (i:Int)=Xa miss):=by
  intro j
  induction j with
  | zero =>
   intro i a h s;obtain ⟨f,rfl⟩:∃ f,a=f+1:=⟨a-1,by omega⟩;exact .inr ⟨fun j e b=>by omega,c f i (by omega)⟩
  | succ j ih =>
   intro i a h s;obtain ⟨f,rfl⟩:∃ f,a=f+1:=⟨a-1,by omega⟩;by_cases hi:i < n
   ·rw [g f i hi]
    cases hp:p i with
    | true => exact .inl ⟨i, Xr _, hi, hp, fun j e b => by omega, P4 rfl⟩
    | false =>
     rw [P3 UE];rcases ih (i+1) f (by omega) (by omega) with ⟨m,e,b,h3,h4,h5⟩ | ⟨e,b⟩
     ·refine .inl ⟨m,by omega,b,h3,fun j t o=>?_,h5⟩;by_cases he:j=i
      ·rw [he];exact hp
      ·exact h4 j (by omega) o
     ·refine .inr ⟨fun j t o=>?_,b⟩;by_cases he:j=i
      ·rw [he];exact hp
      ·exact e j (by omega) o
   ·exact .inr ⟨fun j e b=>by omega,c f i (by omega)⟩
 rcases l n 0 Zr (by omega) (by have:=Yi r;omega) with ⟨m,_,b,h3,h4,h5⟩ | ⟨e,b⟩
 ·exact .inl ⟨m,b,h3,fun j q=>h4 j (by omega) q,h5⟩
 ·exact .inr ⟨fun j q=>e j (by omega) q,b⟩
def zid:Id:=⟨0,0,0⟩
def ZhE (i:Id) (t:YN):Bool:=!decide (t.node.id=zid)&&decide (t.node.id=i)
def WH (s:YN):Bool:=decide (0≤s.op∧s.op≤1073741824)&&(if s.node.id=zid then K0 s.node Z5&&decide (s.lock=zid) else ZD s.node&&(decide (s.lock=zid)||Za4 s.lock))
def VJ (l:List YN) (i:Nat):Bool:=match l[i]? with | some s=>!((l.take i).any (ZhE s.node.id)) | none=>Xb
def KQ (l:List YN):Bool:=decide (l.length≤64)&&(XW 0 l.length).all (fun i=>atB WH l i&&VJ l i)
def Kx (a b c:Int):((P0 .eql a 0&&(P0 .eql b 0&&(P0 .eql c 0&&Xb)))=Xb)↔((⟨a,b,c⟩:Id)=zid):=YV a b c 0 0 0
def ZJ2 (s:YN) (a:s.node.path.length < 2^63):ZIb s.node.id.core s.node.id.op s.node.id.part (Ze s.node.path) s.node.cap.kind s.node.cap.base s.node.cap.bits s.node.cap.rights s.node.cap.width s.node.cap.level s.node.cap.device s.op s.lock.core s.lock.op s.lock.part=Xa (WH s):=by
 rw [ZuN];simp only [Zpm,Zvt _ a,s95 _ a,s99,Xd,Kx,KY];have e:P0 .eql s.lock.part 0=decide (s.lock.part=0):=rfl
 have b:((P0 .eql s.lock.core 0)&&((P0 .eql s.lock.op 0)&&((P0 .eql s.lock.part 0)&&Xb)))=decide (s.lock=zid):=by
  rw [Zm,Kx,KY,P5]
 simp only [b]
 repeat' split
 all_goals (refine congrArg Xa ?_;rw [Zm];simp only [WH,Za4,CQ] at *; grind)
def Zsb {b:Type} (q:b→Bool) (l:List b) (i:Nat) (e:i≤l.length):(l.take i).any q=Xb↔∃ j,∃ (h:j < l.length),j < i∧q l[j]=Xb:=by
 rw [List.any_eq_true];constructor
 ·rintro ⟨x,c,a⟩;obtain ⟨j,d,rfl⟩:=Uv c;rw [X5] at d;rw [TB] at a;exact ⟨j,by omega,by omega,a⟩
 ·rintro ⟨j,f,g,a⟩;refine ⟨l[j],?_,a⟩;rw [List.mem_iff_getElem];exact ⟨j,by rw [X5];omega,by rw [TB]⟩
def KL (l:List YN):(l.map Zv).length=l.length:=Xk _
def ZJ6 (l:List YN) (f:l.length < 2^63) (a b c:Int):∃ r,ZFM (l.map Zv) a b c=Xa (r,l.any (ZhE ⟨a,b,c⟩)):=by
 rw [ZvM,KL]
 have:=ZmP (F:=fun k i=>Zeo k a b c (l.map Zv) (l.length:Int) i) (n:=l.length) (miss:=((0:Int),Xc)) (fun i=>((i:Int),Xb)) (atB (ZhE ⟨a,b,c⟩) l) f
  (fun k i d=>by
   show Zeo (k+1) _ _ _ _ _ _=_;rw [ZiT,P4 (Z4 d)];refine (JQ d _).trans ?_;simp only [Ze7,d2,d4,d8,P2,d6,df,dg,dh,di,dj,dk,dl];rw [Zpm,Xd,ZS d f,Jz _ d];generalize l[i]=t;simp only [Kx,YV,KY,Xu];unfold ZhE;by_cases h1:t.node.id=zid
   ·rw [P3 (by simp only [XK];rw [Kx];exact h1),P3 (by simp [h1])]
   ·rw [P4 (by rw [← XE,Kx];exact h1)];by_cases h2:t.node.id=⟨a,b,c⟩
    ·rw [P4 (by exact h2),P4 (by simp [h1,h2];exact fun h=>h1 (h2.trans h))]
    ·rw [P3 (by exact h2),P3 (by simp [h1,h2])])
  (fun k i d=>by show Zeo (k+1) _ _ _ _ _ _=_;rw [ZiT,P3 (Z3 d)])
 rcases this with ⟨i,h1,h2,h3,h4⟩ | ⟨h1,h2⟩
 ·refine ⟨i,?_⟩
  have e:l.any (ZhE ⟨a,b,c⟩)=Xb:=by
   rw [Jz _ h1] at h2;exact List.any_eq_true.2 ⟨l[i],Xq h1,h2⟩
  rw [e];exact h4
 ·refine ⟨0,?_⟩
  have e:l.any (ZhE ⟨a,b,c⟩)=Xc:=by
   rw [TD];intro x m;obtain ⟨j,g,rfl⟩:=Uv m;have:=h1 j g;rw [Jz _ g] at this;rw [this];exact UE
  rw [e];exact h2
def ZKc (l:List YN) (b:l.length < 2^63) (c:∀ s∈l,s.node.path.length < 2^63):ZGe (l.map Zv)=Xa (KQ l):=by
 rw [Zv8,KL];unfold KQ;refine Jf (fun h=>?_) fun h=>?_
 ·rw [decide_eq_false (by simp only [CQ] at h;omega),Bool.false_and]
 ·rw [decide_eq_true (by simp only [CQ] at h;omega),XP]
  have:=Jj (F:=fun k i=>ZfN k (l.map Zv) (l.map Zv) (l.length:Int) i) (n:=l.length) (fin:=Xa Xb) (bad:=Xa Xc) (fun i=>atB WH l i&&VJ l i) b 0 (by omega)
   (fun k i _ a=>by
    show ZfN (k+1) _ _ _ _=_;rw [Zj0,P4 (Z4 a)];refine (JQ a _).trans ?_;simp only [Ze7,d2,d4,d8,P2,d6,df,dg,dh,di,dj,dk,dl];obtain ⟨r,d⟩:=ZJ6 (l.take i) (by rw [X5];omega) l[i].node.id.core l[i].node.id.op l[i].node.id.part;have e:VJ l i = !((l.take i).any (ZhE l[i].node.id)):=by unfold VJ;rw [Xp a]
    rw [ZJ2 _ (c _ (Xq a)),Xd,Zg (by omega),Zg (by rw [KL];omega),Uk,← Uq,d,Xd,ZS a b,Jz _ a,e,KY]
    cases WH l[i]<;>cases (l.take i).any (ZhE l[i].node.id)<;>rfl)
   (fun k i a=>by show ZfN (k+1) _ _ _ _=_;rw [Zj0,P3 (Z3 a)])
  refine this.trans ?_;rw [Uc]
  cases (XW 0 l.length).all (fun i=>atB WH l i&&VJ l i)<;>rfl
def ZLv (l:List YN) (g:l.length < 2^63) (i:Nat) (c:i < l.length) (o:¬ l[i].node.id=zid):∃ r,ZD4 (l.map Zv) l[i].node.id.core l[i].node.id.op l[i].node.id.part=Xa r∧(r=(i:Int)↔VJ l i=Xb):=by
 rw [ZwQ];have a:ZhE l[i].node.id l[i]=Xb:=by simp [ZhE,o]
 have p:VJ l i = !((l.take i).any (ZhE l[i].node.id)):=by unfold VJ;rw [Xp c]
 have:=ZmP (F:=fun k j=>ZdG k (l.map Zv) l[i].node.id.core l[i].node.id.op l[i].node.id.part j) (n:=l.length) (miss:=(-1:Int)) (fun j=>(j:Int)) (atB (ZhE l[i].node.id) l) g
  (fun k j b=>by
   show ZdG (k+1) _ _ _ _ _=_;rw [Zis,KL,P4 (Z4 b)];refine (JQ b _).trans ?_;simp only [Ze7,d2,d4,d8,P2,d6,df,dg,dh,di,dj,dk,dl];rw [Zqk,Xd,ZS b g,Jz _ b];generalize l[i].node.id=w;refine (Jf (x:=if ZhE w l[j]=Xb then Xa (j:Int) else _) (fun h=>?_) fun h=>?_)
   ·refine (JQ b _).trans ?_;simp only [Ze7,d2,d4,d8,P2,d6,df,dg,dh,di,dj,dk,dl];simp only [Xu] at h;rw [← XE,Kx,KY] at h;unfold ZhE;by_cases h2:l[j].node.id=w
    ·simp only [YV,KY,h2,if_true];rw [P4 (by simp;exact fun d=>h (h2.trans d))]
    ·simp only [YV,KY,h2,if_false];rw [P3 (by simp)]
   ·simp only [Xu,XK] at h;rw [Kx,KY] at h;rw [P3 (by simp [ZhE,h])])
  (fun k j b=>by show ZdG (k+1) _ _ _ _ _=_;rw [Zis,KL,P3 (Z3 b)])
 rcases this with ⟨m,h1,h2,d,h4⟩ | ⟨h1,_⟩
 ·refine ⟨m,h4,?_⟩;rw [p,Xu,← XE,Zsb _ _ _ (by omega)];constructor
  ·intro t;have e:m=i:=by omega
   subst e;rintro ⟨j,b,f,q⟩;have:=d j f;rw [Jz _ b,q] at this
   cases this
  ·intro s;by_cases hmi:m=i
   ·rw [hmi]
   ·exfalso;by_cases hlt:m < i
    ·rw [Jz _ h1] at h2;exact s ⟨m,h1,hlt,h2⟩
    ·have:=d i (by omega);rw [Jz _ c,a] at this
     cases this
 ·have:=h1 i c;rw [Jz _ c,a] at this
  cases this
def ZKW (l:List YN) (e:l.length < 2^63) (f:∀ s∈l,s.node.path.length < 2^63):ZEF (l.map Zv)=Xa (KQ l):=by
 rw [ZuF,KL];unfold KQ;refine Jf (fun h=>?_) fun h=>?_
 ·rw [decide_eq_false (by simp only [CQ] at h;omega),Bool.false_and]
 ·rw [decide_eq_true (by simp only [CQ] at h;omega),XP]
  have:=Jj (F:=fun k i=>Zau k (l.map Zv) i) (n:=l.length) (fin:=Xa Xb) (bad:=Xa Xc) (fun i=>atB WH l i&&VJ l i) e 0 (by omega)
   (fun k i _ a=>by
    show Zau (k+1) _ _=_;rw [Zju,KL,P4 (Z4 a)];refine (JQ a _).trans ?_;simp only [Ze7,d2,d4,d8,P2,d6,df,dg,dh,di,dj,dk,dl];have c:=f _ (Xq a)
    have g:l[i].node.id=zid→VJ l i=Xb:=by
     intro b;unfold VJ;rw [Xp a];simp only [Xu,TD];intro t _;rw [b];simp [ZhE]
    have d:=ZLv l e i a;rw [Jz _ a,ZS a e];generalize Zau k (l.map Zv) ((i+1:Nat):Int)=X;generalize huq:VJ l i=uq at *;generalize hli:l[i]=t at *;simp only [Zqk,Zyb,ZAL _ c,s61 _ c,Xd,Kx,KY]
    have j:((P0 .eql t.lock.core 0)&&((P0 .eql t.lock.op 0)&&((P0 .eql t.lock.part 0)&&Xb)))=decide (t.lock=zid):=by
     rw [Zm,Kx,KY,P5]
    simp only [j];by_cases b:t.node.id=zid
    ·have:=g b;subst this;simp only [b,if_true]
     repeat' split
     all_goals (simp only [WH,Za4,b,if_true,CQ] at * <;> grind)
    ·obtain ⟨r,m,o⟩:=d b;simp only [b,if_false,m,Xd]
     repeat' split
     all_goals (simp only [WH,Za4,b,if_false,CQ] at * <;> grind))
   (fun k i a=>by show Zau (k+1) _ _=_;rw [Zju,KL,P3 (Z3 a)])
  refine this.trans ?_;rw [Uc]
  cases (XW 0 l.length).all (fun i=>atB WH l i&&VJ l i)<;>rfl
def Zfh {j:Nat} (h:j+1 < 2^63):P1 .sub .i64 ((j+1:Nat):Int) 1=(j:Int):=by
 rw [Ze0 (by omega) (by omega)];omega
def Zo2 (j:Nat):P0 .gtr ((j+1:Nat):Int) 0=Xb:=by simp only [CQ];omega
def Zqq:P0 .gtr ((0:Nat):Int) 0=Xc:=rfl
def Zyg (a b:Id):Bool:=Zyx a.core a.op a.part b.core b.op b.part
def s82 (a b c d e f:Int):g82 a b c d e f=Xa (Zyx a b c d e f):=by
 rw [ZCI]
 repeat' split
 all_goals (refine congrArg Xa ?_;rw [Zm];simp only [Zyx,CQ] at *; omega)
def Kf (m:Zaq):Bool:=Jo m.region&&Za4 m.op
def Wu (a:Ans):Bool:=decide (1≤a.op∧a.op≤1073741824)&&Zcq a.err
def VR (e:ZY):Bool:=Zw e.core&&JO e.slot&&ZD e.node
def ltp:Req→Req→Bool:=fun a b=>Zyg a.id b.id
def ZK3 (x:Req) (a:x.src.path.length < 2^63):ZHc x.id.core x.id.op x.id.part x.call.kind x.call.slot x.call.dest x.call.core x.call.mask x.call.object x.call.bits x.call.level x.call.offset x.call.count x.call.index x.call.addr x.region x.width x.src.id.core x.src.id.op x.src.id.part (Ze x.src.path) x.src.cap.kind x.src.cap.base x.src.cap.bits x.src.cap.rights x.src.cap.width x.src.cap.level x.src.cap.device=Xa (!Kl x):=by
 rw [Zws,s90 x a,Xd]
def Ztq (l:List Req) (b:l.length < 2^63) (c:∀ x∈l,x.src.path.length < 2^63):∃ r,ZgJ (l.map Jq)=Xa r∧P0 .geq r 0 = !(l.all Kl):=by
 rw [ZkP,Xk]
 have:=Kc (F:=fun k i=>Vi k (l.map Jq) (l.length:Int) i) (n:=l.length) (fun i=>!atB Kl l i) b
  (fun k i a=>by
   show Vi (k+1) _ _ _=_;rw [ZbR,P4 (Z4 a)];refine (JZ a _).trans ?_;simp only [ZrE,d2,d4,d8,P2,d6,df,dg,dh,di,dj,dk,dl];rw [ZK3 l[i] (c _ (Xq a)),Xd,ZS a b,Jz _ a])
  (fun k i a=>by show Vi (k+1) _ _ _=_;rw [ZbR,P3 (Z3 a)])
 rw [WM] at this;exact this
def Zs7 (l:List Req) (a:l.length < 2^63) (b:∀ x∈l,x.src.path.length < 2^63):ZgI (l.map Jq)=Xa (!(l.all Kl)):=by
 obtain ⟨r,c,d⟩:=Ztq l a b;rw [Zkq,c,Xd,d]
def ZJK (l:List Req) {j:Nat} (a:j+1 < l.length):ZHf (j:Int) ((j+1:Nat):Int) (l.map Jq)=Xa (ltp l[j] l[j+1],l.map Jq):=by
 rw [Zup];refine (JZ (show j < l.length by omega) _).trans ?_;refine (JZ a _).trans ?_;simp only [ZrE,d2,d4,d8,P2,d6,df,dg,dh,di,dj,dk,dl];rw [ZJh,Xd];rfl
def ZrG (l:List Req) (b:l.length < 2^63):Zgy (l.length:Int) (l.map Jq)=Xa (Ve ltp l,l.map Jq):=by
 rw [Zlo]
 have:=Jj (F:=fun k i=>Vj k (l.length:Int) i (l.map Jq)) (n:=l.length) (fin:=Xa (Xb,l.map Jq)) (bad:=Xa (Xc,l.map Jq)) (Wi ltp l) b 1 (by omega)
  (fun k i c a=>by
   obtain ⟨j,rfl⟩:∃ j,i=j+1:=⟨i-1,by omega⟩;show Vj (k+1) _ _ _=_;rw [Zbw,P4 (Z4 a),Zfh (by omega),ZJK l a,Xd,ZS a b,KS _ a]
   cases ltp l[j] l[j+1]<;>rfl)
  (fun k i a=>by show Vj (k+1) _ _ _=_;rw [Zbw,P3 (Z3 a)])
 rw [ZBj] at this;refine XR this ?_
 cases Ve ltp l<;>rfl
def ZK4 (l:List Req) (a:l.length < 2^63) (b:∀ x∈l,x.src.path.length < 2^63):ZHS (l.map Jq)=Xa (l.all Kl&&Ve ltp l):=by
 rw [Zva,Zs7 l a b,Xd,Xk,ZrG l a,Xd]
 cases l.all Kl<;>rfl
def ltm:Zaq→Zaq→Bool:=fun a b=>decide (a.region < b.region)
def ZK6 (x:Zaq):ZHP x.region x.op.core x.op.op x.op.part=Xa (!Kf x):=by
 rw [Zxp];simp only [s89,s91,Xd]
 repeat' split
 all_goals (refine congrArg Xa ?_;rw [Zm];simp only [Kf,CQ] at * <;> grind)
def Ztk (l:List Zaq) (b:l.length < 2^63):∃ r,Zhf (l.map Zz)=Xa r∧P0 .geq r 0 = !(l.all Kf):=by
 rw [ZkO,Xk]
 have:=Kc (F:=fun k i=>Vc k (l.map Zz) (l.length:Int) i) (n:=l.length) (fun i=>!atB Kf l i) b
  (fun k i a=>by
   show Vc (k+1) _ _ _=_;rw [Za7,P4 (Z4 a)];refine (JN a _).trans ?_;simp only [d2,d4,d8,P2,d6,df,dg,dh,di,dj,dk,dl];rw [ZK6 l[i],Xd,ZS a b,Jz _ a])
  (fun k i a=>by show Vc (k+1) _ _ _=_;rw [Za7,P3 (Z3 a)])
 rw [WM] at this;exact this
def Zs6 (l:List Zaq) (a:l.length < 2^63):Zg2 (l.map Zz)=Xa (!(l.all Kf)):=by
 obtain ⟨r,b,c⟩:=Ztk l a;rw [Zkv,b,Xd,c]
def ZKe (l:List Zaq) {j:Nat} (a:j+1 < l.length):ZIc (j:Int) ((j+1:Nat):Int) (l.map Zz)=Xa (ltm l[j] l[j+1],l.map Zz):=by
 rw [Zxc];refine (JN (show j < l.length by omega) _).trans ?_;refine (JN a _).trans ?_;simp only [d2,d4,d8,P2,d6,df,dg,dh,di,dj,dk,dl];rfl
def Zse (l:List Zaq) (b:l.length < 2^63):Zhn (l.length:Int) (l.map Zz)=Xa (Ve ltm l,l.map Zz):=by
 rw [ZkD]
 have:=Jj (F:=fun k i=>Vh k (l.length:Int) i (l.map Zz)) (n:=l.length) (fin:=Xa (Xb,l.map Zz)) (bad:=Xa (Xc,l.map Zz)) (Wi ltm l) b 1 (by omega)
  (fun k i c a=>by
   obtain ⟨j,rfl⟩:∃ j,i=j+1:=⟨i-1,by omega⟩;show Vh (k+1) _ _ _=_;rw [ZbM,P4 (Z4 a),Zfh (by omega),ZKe l a,Xd,ZS a b,KS _ a]
   cases ltm l[j] l[j+1]<;>rfl)
  (fun k i a=>by show Vh (k+1) _ _ _=_;rw [ZbM,P3 (Z3 a)])
 rw [ZBj] at this;refine XR this ?_
 cases Ve ltm l<;>rfl
def ZKG (l:List Zaq) (a:l.length < 2^63):ZGM (l.map Zz)=Xa (l.all Kf&&Ve ltm l):=by
 rw [Zwb,Zs6 l a,Xd,Xk,Zse l a,Xd]
 cases l.all Kf<;>rfl
def lta:Ans→Ans→Bool:=fun a b=>decide (a.op < b.op)
def ZLh (x:Ans):ZFS x.op x.err=Xa (!Wu x):=by
 rw [ZuX];simp only [s92,Xd]
 repeat' split
 all_goals (refine congrArg Xa ?_;rw [Zm];simp only [Wu,CQ] at * <;> grind)
def Zsy (l:List Ans) (b:l.length < 2^63):∃ r,Zgl (l.map JB)=Xa r∧P0 .geq r 0 = !(l.all Wu):=by
 rw [Zlr,Xk]
 have:=Kc (F:=fun k i=>Vg k (l.map JB) (l.length:Int) i) (n:=l.length) (fun i=>!atB Wu l i) b
  (fun k i a=>by
   show Vg (k+1) _ _ _=_;rw [Za8,P4 (Z4 a)];refine (J7 a _).trans ?_;simp only [d2,d4,d8,P2,d6,df,dg,dh,di,dj,dk,dl];rw [ZLh l[i],Xd,ZS a b,Jz _ a])
  (fun k i a=>by show Vg (k+1) _ _ _=_;rw [Za8,P3 (Z3 a)])
 rw [WM] at this;exact this
def Zta (l:List Ans) (a:l.length < 2^63):Zg9 (l.map JB)=Xa (!(l.all Wu)):=by
 obtain ⟨r,b,c⟩:=Zsy l a;rw [ZkT,b,Xd,c]
def ZJ5 (l:List Ans) {j:Nat} (a:j+1 < l.length):ZF0 (j:Int) ((j+1:Nat):Int) (l.map JB)=Xa (lta l[j] l[j+1],l.map JB):=by
 rw [Zwt];refine (J7 (show j < l.length by omega) _).trans ?_;refine (J7 a _).trans ?_;simp only [d2,d4,d8,P2,d6,df,dg,dh,di,dj,dk,dl];rfl
def Ztm (l:List Ans) (b:l.length < 2^63):Zg5 (l.length:Int) (l.map JB)=Xa (Ve lta l,l.map JB):=by
 rw [Zkr]
 have:=Jj (F:=fun k i=>K5 k (l.length:Int) i (l.map JB)) (n:=l.length) (fin:=Xa (Xb,l.map JB)) (bad:=Xa (Xc,l.map JB)) (Wi lta l) b 1 (by omega)
  (fun k i c a=>by
   obtain ⟨j,rfl⟩:∃ j,i=j+1:=⟨i-1,by omega⟩;show K5 (k+1) _ _ _=_;rw [ZbT,P4 (Z4 a),Zfh (by omega),ZJ5 l a,Xd,ZS a b,KS _ a]
   cases lta l[j] l[j+1]<;>rfl)
  (fun k i a=>by show K5 (k+1) _ _ _=_;rw [ZbT,P3 (Z3 a)])
 rw [ZBj] at this;refine XR this ?_
 cases Ve lta l<;>rfl
def ZJ7 (l:List Ans) (a:l.length < 2^63):ZHp (l.map JB)=Xa (l.all Wu&&Ve lta l):=by
 rw [ZwL,Zta l a,Xd,Xk,Ztm l a,Xd]
 cases l.all Wu<;>rfl
def lte:ZY→ZY→Bool:=fun a b=>Zyg a.node.id b.node.id
def ZKN (x:ZY) (a:x.node.path.length < 2^63):ZGk x.core x.slot x.node.id.core x.node.id.op x.node.id.part (Ze x.node.path) x.node.cap.kind x.node.cap.base x.node.cap.bits x.node.cap.rights x.node.cap.width x.node.cap.level x.node.cap.device=Xa (!VR x):=by
 rw [ZvU];simp only [s34,s96,s95 _ a,Xd]
 repeat' split
 all_goals (refine congrArg Xa ?_;rw [Zm];simp only [VR,CQ] at * <;> grind)
def Zsf (l:List ZY) (b:l.length < 2^63) (c:∀ x∈l,x.node.path.length < 2^63):∃ r,ZgN (l.map Zi)=Xa r∧P0 .geq r 0 = !(l.all VR):=by
 rw [ZkH,Xk]
 have:=Kc (F:=fun k i=>Vf k (l.map Zi) (l.length:Int) i) (n:=l.length) (fun i=>!atB VR l i) b
  (fun k i a=>by
   show Vf (k+1) _ _ _=_;rw [Zb5,P4 (Z4 a)];refine (Zu a _).trans ?_;simp only [Yx,d2,d4,d8,P2,d6,df,dg,dh,di,dj,dk,dl];rw [ZKN l[i] (c _ (Xq a)),Xd,ZS a b,Jz _ a])
  (fun k i a=>by show Vf (k+1) _ _ _=_;rw [Zb5,P3 (Z3 a)])
 rw [WM] at this;exact this
def ZrN (l:List ZY) (a:l.length < 2^63) (b:∀ x∈l,x.node.path.length < 2^63):ZhC (l.map Zi)=Xa (!(l.all VR)):=by
 obtain ⟨r,c,d⟩:=Zsf l a b;rw [Zkd,c,Xd,d]
def ZLq (l:List ZY) {j:Nat} (a:j+1 < l.length):ZFx (j:Int) ((j+1:Nat):Int) (l.map Zi)=Xa (lte l[j] l[j+1],l.map Zi):=by
 rw [ZxO];refine (Zu (show j < l.length by omega) _).trans ?_;refine (Zu a _).trans ?_;simp only [Yx,d2,d4,d8,P2,d6,df,dg,dh,di,dj,dk,dl];rw [ZJh,Xd];rfl
def ZtD (l:List ZY) (b:l.length < 2^63):Zgs (l.length:Int) (l.map Zi)=Xa (Ve lte l,l.map Zi):=by
 rw [Zlm]
 have:=Jj (F:=fun k i=>Vd k (l.length:Int) i (l.map Zi)) (n:=l.length) (fin:=Xa (Xb,l.map Zi)) (bad:=Xa (Xc,l.map Zi)) (Wi lte l) b 1 (by omega)
  (fun k i c a=>by
   obtain ⟨j,rfl⟩:∃ j,i=j+1:=⟨i-1,by omega⟩;show Vd (k+1) _ _ _=_;rw [Zb8,P4 (Z4 a),Zfh (by omega),ZLq l a,Xd,ZS a b,KS _ a]
   cases lte l[j] l[j+1]<;>rfl)
  (fun k i a=>by show Vd (k+1) _ _ _=_;rw [Zb8,P3 (Z3 a)])
 rw [ZBj] at this;refine XR this ?_
 cases Ve lte l<;>rfl
def ZKr (l:List ZY) (a:l.length < 2^63) (b:∀ x∈l,x.node.path.length < 2^63):ZFl (l.map Zi)=Xa (l.all VR&&Ve lte l):=by
 rw [ZxJ,ZrN l a b,Xd,Xk,ZtD l a,Xd]
 cases l.all VR<;>rfl
def ZLt (x:Id):ZG4 x.core x.op x.part=Xa (!Za4 x):=by
 rw [Zum,s91,Xd]
def ZrK (l:List Id) (b:l.length < 2^63):∃ r,Zhw (Ze l)=Xa r∧P0 .geq r 0 = !(l.all Za4):=by
 rw [Zks,ZX]
 have:=Kc (F:=fun k i=>Va k (Ze l) (l.length:Int) i) (n:=l.length) (fun i=>!atB Za4 l i) b
  (fun k i a=>by
   show Va (k+1) _ _ _=_;rw [Zb0,P4 (Z4 a)];refine (VC a _).trans ?_;dsimp only;rw [ZLt l[i],Xd,ZS a b,Jz _ a])
  (fun k i a=>by show Va (k+1) _ _ _=_;rw [Zb0,P3 (Z3 a)])
 rw [WM] at this;exact this
def ZuB (l:List Id) (a:l.length < 2^63):Zkt (Ze l)=Xa (!(l.all Za4)):=by
 obtain ⟨r,b,c⟩:=ZrK l a;rw [Zog,b,Xd,c]
def Zkz (ops:Bool) (i:Id):Bool:=Vx i&&(!ops||decide (i.part=0))
def s55 (l:List Id) (ops:Bool) (b:l.length < 2^63):g55 (Ze l) ops=Xa (l.all (Zkz ops)):=by
 rw [ZB3]
 have:=Jj (F:=fun k i=>Ziy k (Ze l) ops i) (n:=l.length) (fin:=Xa Xb) (bad:=Xa Xc) (atB (Zkz ops) l) b 0 (by omega)
  (fun k i _ a=>by
   show Ziy (k+1) _ _ _=_;rw [Zmc,ZX,P4 (Z4 a)];refine (VC a _).trans ?_;dsimp only;rw [Zyb,Xd,ZS a b,Jz _ a,KY];generalize Ziy k (Ze l) ops ((i+1:Nat):Int)=X;have e:∀ k:(Int×Int×Int)→Option Bool,Zj (Ze l) (i:Int) [.int .i64,.int .i64,.int .i64] k=k (l[i].core,l[i].op,l[i].part):=fun k=>VC a k;simp only [e];generalize l[i]=t;unfold Zkz
   repeat' split
   all_goals (simp only [CQ] at * <;> grind))
  (fun k i a=>by show Ziy (k+1) _ _ _=_;rw [Zmc,ZX,P3 (Z3 a)])
 rw [Uc,ZcN] at this;refine XR this ?_
 cases l.all (Zkz ops)<;>rfl
def ZIk (l:List ZY) (c:l.length < 2^63) (d:∀ x∈l,x.node.path.length < 2^63) (x0 x1 x2 x3 b:List (List AV)):ZdP Zr x0 x1 x2 x3 (l.map Zi) b 0=if (l.all VR&&Ve lte l)=Xb then Xa Xb else Xa Xc:=by
 have:=Jj (F:=fun k i=>ZdP k x0 x1 x2 x3 (l.map Zi) b i) (n:=l.length) (fin:=Xa Xb) (bad:=Xa Xc) (fun i=>atB VR l i&&Wi lte l i) c 0 (by omega)
  (fun k i _ a=>by
   show ZdP (k+1) x0 x1 x2 x3 (l.map Zi) b _=_;rw [ZlY,Xk,P4 (Z4 a)];refine (Zu a _).trans ?_;rw [ZS a c,Jz _ a];generalize ZdP k x0 x1 x2 x3 (l.map Zi) b ((i+1:Nat):Int)=X
   cases i with
   | zero =>
    simp only [Yx,d2,d4,d8,P2,d6,df,dg,dh,di,dj,dk,dl,s51,s61 _ (d _ (Xq a)),s82,Xd,Zqq,Xw,if_false,Wi,X6];generalize l[0]=t
    repeat' split
    all_goals (simp only [VR,Jo,JO,CQ] at * <;> grind)
   | succ j =>
    simp only [Yx,d2,d4,d8,P2,d6,df,dg,dh,di,dj,dk,dl,s51,s61 _ (d _ (Xq a)),s82,Xd,Zo2,if_true,Zfh (show j+1 < 2^63 by omega),Zu (show j < l.length by omega),Zu a,KS _ a];generalize l[j+1]=t;generalize l[j]=u;unfold lte Zyg
    repeat' split
    all_goals (simp only [VR,Jo,JO,CQ] at * <;> grind))
  (fun k i a=>by show ZdP (k+1) x0 x1 x2 x3 (l.map Zi) b _=_;rw [ZlY,Xk,P3 (Z3 a)])
 rw [Uc,Zed] at this;exact this
def ZIe (l:List Ans) (c:l.length < 2^63) (x0 x1 x2 x4 b:List (List AV)):ZeE Zr x0 x1 x2 (l.map JB) x4 b 0=if (l.all Wu&&Ve lta l)=Xb then ZdP Zr x0 x1 x2 (l.map JB) x4 b 0 else Xa Xc:=by
 have:=Jj (F:=fun k i=>ZeE k x0 x1 x2 (l.map JB) x4 b i) (n:=l.length) (fin:=ZdP Zr x0 x1 x2 (l.map JB) x4 b 0) (bad:=Xa Xc) (fun i=>atB Wu l i&&Wi lta l i) c 0 (by omega)
  (fun k i _ a=>by
   show ZeE (k+1) x0 x1 x2 (l.map JB) x4 b _=_;rw [Zmp,Xk,P4 (Z4 a)];refine (J7 a _).trans ?_;rw [ZS a c,Jz _ a];generalize ZeE k x0 x1 x2 (l.map JB) x4 b ((i+1:Nat):Int)=X
   cases i with
   | zero =>
    simp only [d2,d4,d8,P2,d6,df,dg,dh,di,dj,dk,dl,s54,Xd,Zqq,Xw,if_false,Wi,X6];generalize l[0]=t
    repeat' split
    all_goals (simp only [Wu,Jo,JO,CQ] at * <;> grind)
   | succ j =>
    simp only [d2,d4,d8,P2,d6,df,dg,dh,di,dj,dk,dl,s54,Xd,Zo2,if_true,Zfh (show j+1 < 2^63 by omega),J7 (show j < l.length by omega),J7 a,KS _ a];generalize l[j+1]=t;generalize l[j]=u;unfold lta
    repeat' split
    all_goals (simp only [Wu,Jo,JO,CQ] at * <;> grind))
  (fun k i a=>by show ZeE (k+1) x0 x1 x2 (l.map JB) x4 b _=_;rw [Zmp,Xk,P3 (Z3 a)])
 rw [Uc,Zed] at this;exact this
def ZEs (l:List Zaq) (c:l.length < 2^63) (x0 x1 x3 x4 b:List (List AV)):Zdw Zr x0 x1 (l.map Zz) x3 x4 b 0=if (l.all Kf&&Ve ltm l)=Xb then ZeE Zr x0 x1 (l.map Zz) x3 x4 b 0 else Xa Xc:=by
 have:=Jj (F:=fun k i=>Zdw k x0 x1 (l.map Zz) x3 x4 b i) (n:=l.length) (fin:=ZeE Zr x0 x1 (l.map Zz) x3 x4 b 0) (bad:=Xa Xc) (fun i=>atB Kf l i&&Wi ltm l i) c 0 (by omega)
  (fun k i _ a=>by
   show Zdw (k+1) x0 x1 (l.map Zz) x3 x4 b _=_;rw [Zmt,Xk,P4 (Z4 a)];refine (JN a _).trans ?_;rw [ZS a c,Jz _ a];generalize Zdw k x0 x1 (l.map Zz) x3 x4 b ((i+1:Nat):Int)=X
   cases i with
   | zero =>
    simp only [d2,d4,d8,P2,d6,df,dg,dh,di,dj,dk,dl,s62,s53 l[0].op,Xd,Zqq,Xw,if_false,Wi,X6];generalize l[0]=t
    repeat' split
    all_goals (simp only [Kf,Jo,JO,CQ] at * <;> grind)
   | succ j =>
    simp only [d2,d4,d8,P2,d6,df,dg,dh,di,dj,dk,dl,s62,s53 l[j+1].op,Xd,Zo2,if_true,Zfh (show j+1 < 2^63 by omega),JN (show j < l.length by omega),JN a,KS _ a];generalize l[j+1]=t;generalize l[j]=u;unfold ltm
    repeat' split
    all_goals (simp only [Kf,Jo,JO,CQ] at * <;> grind))
  (fun k i a=>by show Zdw (k+1) x0 x1 (l.map Zz) x3 x4 b _=_;rw [Zmt,Xk,P3 (Z3 a)])
 rw [Uc,Zed] at this;exact this
def ZHH (l:List Req) (c:l.length < 2^63) (d:∀ x∈l,x.src.path.length < 2^63) (x0 x2 x3 x4 b:List (List AV)):ZgM Zr x0 (l.map Jq) x2 x3 x4 b 0=if (l.all Kl&&Ve ltp l)=Xb then Zdw Zr x0 (l.map Jq) x2 x3 x4 b 0 else Xa Xc:=by
 have:=Jj (F:=fun k i=>ZgM k x0 (l.map Jq) x2 x3 x4 b i) (n:=l.length) (fin:=Zdw Zr x0 (l.map Jq) x2 x3 x4 b 0) (bad:=Xa Xc) (fun i=>atB Kl l i&&Wi ltp l i) c 0 (by omega)
  (fun k i _ a=>by
   show ZgM (k+1) x0 (l.map Jq) x2 x3 x4 b _=_;rw [ZmI,Xk,P4 (Z4 a)];refine (JZ a _).trans ?_;rw [ZS a c,Jz _ a];generalize ZgM k x0 (l.map Jq) x2 x3 x4 b ((i+1:Nat):Int)=X
   cases i with
   | zero =>
    simp only [ZrE,d2,d4,d8,P2,d6,df,dg,dh,di,dj,dk,dl,s52 _ (d _ (Xq a)),s82,Xd,Zqq,Xw,if_false,Wi,X6];generalize l[0]=t
    repeat' split
    all_goals (simp only [Jo,JO,CQ] at * <;> grind)
   | succ j =>
    simp only [ZrE,d2,d4,d8,P2,d6,df,dg,dh,di,dj,dk,dl,s52 _ (d _ (Xq a)),s82,Xd,Zo2,if_true,Zfh (show j+1 < 2^63 by omega),JZ (show j < l.length by omega),JZ a,KS _ a];generalize l[j+1]=t;generalize l[j]=u;unfold ltp Zyg
    repeat' split
    all_goals (simp only [Jo,JO,CQ] at * <;> grind))
  (fun k i a=>by show ZgM (k+1) x0 (l.map Jq) x2 x3 x4 b _=_;rw [ZmI,Xk,P3 (Z3 a)])
 rw [Uc,Zed] at this;exact this
def Yg (s:JD):Bool:=KQ s.slots&&(s.pending.all Kl&&Ve ltp s.pending)&&(s.marks.all Kf&&Ve ltm s.marks)&&(s.answers.all Wu&&Ve lta s.answers)&&(s.entries.all VR&&Ve lte s.entries)&&s.commits.all Za4
structure JD.Fits (s:JD):Prop where
 slots:s.slots.length < 2^63
 pending:s.pending.length < 2^63
 marks:s.marks.length < 2^63
 answers:s.answers.length < 2^63
 entries:s.entries.length < 2^63
 commits:s.commits.length < 2^63
 slot:∀ x∈s.slots,x.node.path.length < 2^63
 req:∀ x∈s.pending,x.src.path.length < 2^63
 entry:∀ x∈s.entries,x.node.path.length < 2^63
def ZG1 (s:JD) (h:s.Fits):ZB0 (s.slots.map Zv) (s.pending.map Jq) (s.marks.map Zz) (s.answers.map JB) (s.entries.map Zi) (Ze s.commits)=Xa (Yg s):=by
 rw [ZwP,ZKc _ h.slots h.slot,Xd,ZK4 _ h.pending h.req,Xd,ZKG _ h.marks,Xd,ZJ7 _ h.answers,Xd,ZKr _ h.entries h.entry,Xd,ZuB _ h.commits,Xd];unfold Yg
 cases KQ s.slots<;>cases (s.pending.all Kl&&Ve ltp s.pending)<;>cases (s.marks.all Kf&&Ve ltm s.marks)<;>cases (s.answers.all Wu&&Ve lta s.answers)<;>cases (s.entries.all VR&&Ve lte s.entries)<;>cases s.commits.all Za4<;>rfl
def s59 (s:JD) (h:s.Fits):g59 (s.slots.map Zv) (s.pending.map Jq) (s.marks.map Zz) (s.answers.map JB) (s.entries.map Zi) (Ze s.commits)=Xa (Yg s):=by
 have e:s.commits.all (Zkz Xb)=s.commits.all Za4:=by congr
 rw [ZBD,ZKW _ h.slots h.slot,Xd,s55 _ _ h.commits,Xd,ZHH _ h.pending h.req,ZEs _ h.marks,ZIe _ h.answers,ZIk _ h.entries h.entry,e];unfold Yg
 cases KQ s.slots<;>cases (s.pending.all Kl&&Ve ltp s.pending)<;>cases (s.marks.all Kf&&Ve ltm s.marks)<;>cases (s.answers.all Wu&&Ve lta s.answers)<;>cases (s.entries.all VR&&Ve lte s.entries)<;>cases s.commits.all Za4<;>rfl
def ZFy {n:Nat} (h:n≤maxLen):n < 2^63:=by
 have:maxLen+1=2^63:=by decide
 omega
def ZT (l:List Int):(Zd l).length=l.length:=by simp [Zd]
def Zjt (l:List Int) (n:Nat):(Zd l).take n=Zd (l.take n):=by simp [Zd,Uq]
def JR (z:Int):Bool:=decide (0≤z∧z≤1073741824)
def KV (m:ZeF):Bool:=Jo m.region&&Zw m.to
def s33 (z:Int):g33 z=Xa (JR z):=by
 rw [ZAd]
 repeat' split
 all_goals (refine congrArg Xa ?_;rw [Zm];simp only [JR,CQ] at *; omega)
def s50 (z:Int):g50 z=Xa (JR z):=by
 rw [ZzE]
 repeat' split
 all_goals (refine congrArg Xa ?_;rw [Zm];simp only [JR,CQ] at *; omega)
def s94 (x:Yc) (a:x.path.length < 2^63):g94 x.id.core x.id.op x.id.part (Ze x.path) x.cap.kind x.cap.base x.cap.bits x.cap.rights x.cap.width x.cap.level x.cap.device=Xa (!ZD x):=by
 rw [ZAw,s95 x a,Xd]
def Zw1 (l:List Yc) (b:l.length < 2^63) (c:∀ x∈l,x.path.length < 2^63):∃ r,Zk6 (l.map YM)=Xa r∧P0 .geq r 0 = !(l.all ZD):=by
 rw [Zoi,Xk]
 have:=Kc (F:=fun k i=>VZ k (l.map YM) (l.length:Int) i) (n:=l.length) (fun i=>!atB ZD l i) b
  (fun k i a=>by
   show VZ (k+1) _ _ _=_;rw [ZcF,P4 (Z4 a)];refine (Y8 a _).trans ?_;simp only [Ziv,d2,d4,d8,P2,d6,df,dg,dh,di,dj,dk,dl];rw [s94 l[i] (c _ (Xq a)),Xd,ZS a b,Jz _ a])
  (fun k i a=>by show VZ (k+1) _ _ _=_;rw [ZcF,P3 (Z3 a)])
 rw [WM] at this;exact this
def ZB9 (l:List Yc) (a:l.length < 2^63) (b:∀ x∈l,x.path.length < 2^63):ZfI (l.map YM)=Xa (!(l.all ZD)):=by
 obtain ⟨r,c,d⟩:=Zw1 l a b;rw [Zo3,c,Xd,d]
def s98 (x:Id):g98 x.core x.op x.part=Xa (!Vx x):=by
 rw [ZCS,s99,Xd,KY]
def Zxf (l:List Id) (b:l.length < 2^63):∃ r,ZkV (Ze l)=Xa r∧P0 .geq r 0 = !(l.all Vx):=by
 rw [Znz,ZX]
 have:=Kc (F:=fun k i=>VY k (Ze l) (l.length:Int) i) (n:=l.length) (fun i=>!atB Vx l i) b
  (fun k i a=>by
   show VY (k+1) _ _ _=_;rw [ZcR,P4 (Z4 a)];refine (VC a _).trans ?_;dsimp only;rw [s98 l[i],Xd,ZS a b,Jz _ a])
  (fun k i a=>by show VY (k+1) _ _ _=_;rw [ZcR,P3 (Z3 a)])
 rw [WM] at this;exact this
def ZA7 (l:List Id) (a:l.length < 2^63):Zl9 (Ze l)=Xa (!(l.all Vx)):=by
 obtain ⟨r,b,c⟩:=Zxf l a;rw [Zq3,b,Xd,c]
def ZLb (x:Int):ZHE x=Xa (!Zw x):=by
 rw [Zxe,s34,Xd]
def Ztr (l:List Int) (b:l.length < 2^63):∃ r,Zgp (Zd l)=Xa r∧P0 .geq r 0 = !(l.all Zw):=by
 rw [Zkx,ZT]
 have:=Kc (F:=fun k i=>K6 k (Zd l) (l.length:Int) i) (n:=l.length) (fun i=>!atB Zw l i) b
  (fun k i a=>by
   show K6 (k+1) _ _ _=_;rw [Zb3,P4 (Z4 a)];refine (Z2 a _).trans ?_
   skip
   rw [ZLb l[i],Xd,ZS a b,Jz _ a])
  (fun k i a=>by show K6 (k+1) _ _ _=_;rw [Zb3,P3 (Z3 a)])
 rw [WM] at this;exact this
def Zs3 (l:List Int) (a:l.length < 2^63):Zdg (Zd l)=Xa (!(l.all Zw)):=by
 obtain ⟨r,b,c⟩:=Ztr l a;rw [Zk8,b,Xd,c]
def ZJQ (x:Int):ZE6 x=Xa (!Zw x):=by
 rw [ZuD,s34,Xd]
def Zsw (l:List Int) (b:l.length < 2^63):∃ r,Zg7 (Zd l)=Xa r∧P0 .geq r 0 = !(l.all Zw):=by
 rw [Zkn,ZT]
 have:=Kc (F:=fun k i=>K7 k (Zd l) (l.length:Int) i) (n:=l.length) (fun i=>!atB Zw l i) b
  (fun k i a=>by
   show K7 (k+1) _ _ _=_;rw [Zb7,P4 (Z4 a)];refine (Z2 a _).trans ?_
   skip
   rw [ZJQ l[i],Xd,ZS a b,Jz _ a])
  (fun k i a=>by show K7 (k+1) _ _ _=_;rw [Zb7,P3 (Z3 a)])
 rw [WM] at this;exact this
def Zr6 (l:List Int) (a:l.length < 2^63):Zha (Zd l)=Xa (!(l.all Zw)):=by
 obtain ⟨r,b,c⟩:=Zsw l a;rw [ZkZ,b,Xd,c]
def ZKs (x:ZeF):ZE0 x.region x.to=Xa (!KV x):=by
 rw [ZwG,s89,s34,Xd,Xd];unfold KV
 cases Jo x.region<;>rfl
def Ztb (l:List ZeF) (b:l.length < 2^63):∃ r,ZgY (l.map YE)=Xa r∧P0 .geq r 0 = !(l.all KV):=by
 rw [Zke,Xk]
 have:=Kc (F:=fun k i=>Vk k (l.map YE) (l.length:Int) i) (n:=l.length) (fun i=>!atB KV l i) b
  (fun k i a=>by
   show Vk (k+1) _ _ _=_;rw [ZbV,P4 (Z4 a)];refine (Yt a _).trans ?_;dsimp only;rw [ZKs l[i],Xd,ZS a b,Jz _ a])
  (fun k i a=>by show Vk (k+1) _ _ _=_;rw [ZbV,P3 (Z3 a)])
 rw [WM] at this;exact this
def ZrO (l:List ZeF) (a:l.length < 2^63):Zdn (l.map YE)=Xa (!(l.all KV)):=by
 obtain ⟨r,b,c⟩:=Ztb l a;rw [ZkX,b,Xd,c]
def ltI (a b:Int):Bool:=decide (a < b)
def ZaV (l:List Int):Bool:=l.all Zw&&Ve ltI l
def s56 (l:List Int) (b:l.length < 2^63):g56 (Zd l)=Xa (ZaV l):=by
 rw [ZyC]
 have:=Jj (F:=fun k i=>ZiH k (Zd l) i) (n:=l.length) (fin:=Xa Xb) (bad:=Xa Xc) (fun i=>atB Zw l i&&Wi ltI l i) b 0 (by omega)
  (fun k i _ a=>by
   show ZiH (k+1) (Zd l) _=_;rw [Znl,ZT,P4 (Z4 a)];refine (Z2 a _).trans ?_;rw [ZS a b,Jz _ a];generalize ZiH k (Zd l) ((i+1:Nat):Int)=X
   cases i with
   | zero =>
    simp only [s51,Xd,Zqq,Xw,if_false,Wi,X6]
    cases Zw l[0]<;>rfl
   | succ j =>
    simp only [s51,Xd,Zo2,if_true,Zfh (show j+1 < 2^63 by omega),Z2 (show j < l.length by omega),Z2 a,KS _ a];generalize l[j+1]=t;generalize l[j]=u;unfold ltI
    repeat' split
    all_goals (simp only [CQ] at * <;> grind))
  (fun k i a=>by show ZiH (k+1) (Zd l) _=_;rw [Znl,ZT,P3 (Z3 a)])
 rw [Uc,Zed] at this;refine XR this ?_;unfold ZaV
 cases (l.all Zw&&Ve ltI l)<;>rfl
def s60 (l:List ZeF) (b:l.length < 2^63):g60 (l.map YE)=Xa (l.all KV&&decide (l.length≤16)):=by
 rw [ZCE]
 have:=Jj (F:=fun k i=>Zkm k (l.map YE) i) (n:=l.length) (fin:=Xa (P0 .leq (l.length:Int) 16)) (bad:=Xa Xc) (atB KV l) b 0 (by omega)
  (fun k i _ a=>by
   show Zkm (k+1) (l.map YE) _=_;rw [Znc,Xk,P4 (Z4 a)];refine (Yt a _).trans ?_;rw [ZS a b,Jz _ a];generalize Zkm k (l.map YE) ((i+1:Nat):Int)=X;simp only [s62,s51,Xd,Yt a];generalize l[i]=t;unfold KV
   cases Jo t.region<;>cases Zw t.to<;>rfl)
  (fun k i a=>by show Zkm (k+1) (l.map YE) _=_;rw [Znc,Xk,P3 (Z3 a)])
 rw [Uc,ZcN] at this;refine XR this ?_;have e:P0 .leq (l.length:Int) 16=decide (l.length≤16):=by rw [Zm];simp only [CQ];omega
 rw [e]
 cases l.all KV<;>rfl
def ZKP (l:List Int) (c:l.length < 2^63) (a:Int):∃ r,ZHu (Zd l) a=Xa r∧P0 .geq r 0=l.any (fun x=>decide (a=x)):=by
 rw [ZvL,ZT]
 have:=Kc (F:=fun k i=>ZfW k (Zd l) a (l.length:Int) i) (n:=l.length) (fun i=>!atB (fun x=>!decide (a=x)) l i) c
  (fun k i b=>by
   show ZfW (k+1) _ _ _ _=_;rw [ZhQ,P4 (Z4 b)];refine (Z2 b _).trans ?_;rw [ZS b c,Jz _ b,Bool.not_not];rfl)
  (fun k i b=>by show ZfW (k+1) _ _ _ _=_;rw [ZhQ,P3 (Z3 b)])
 rw [WM] at this
 have e:(!(l.all fun x=>!decide (a=x)))=l.any (fun x=>decide (a=x)):=by
  rw [T0]
 rw [e] at this;exact this
def ZKx (l:List Int) (b:l.length < 2^63) (a:Int):ZF8 (Zd l) a=Xa (l.any (fun x=>decide (a=x))):=by
 obtain ⟨r,c,d⟩:=ZKP l b a;rw [ZvP,c,Xd,d]
def s79 (l:List Int) (c:l.length < 2^63) (a:Int):g79 (Zd l) a=Xa (l.any (fun x=>decide (a=x))):=by
 rw [ZCR]
 have:=Jj (F:=fun k i=>Zlu k (Zd l) a i) (n:=l.length) (fin:=Xa Xc) (bad:=Xa Xb) (atB (fun x=>!decide (a=x)) l) c 0 (by omega)
  (fun k i _ b=>by
   show Zlu (k+1) (Zd l) _ _=_;rw [ZlR,ZT,P4 (Z4 b)];refine (Z2 b _).trans ?_;rw [ZS b c,Jz _ b];generalize Zlu k (Zd l) a ((i+1:Nat):Int)=X;generalize l[i]=t;by_cases h:a=t
   ·rw [P4 (by simp only [CQ];exact h.symm),P3 (by simp [h])]
   ·rw [P3 (by simp only [CQ];exact fun d=>h d.symm),P4 (by simp [h])])
  (fun k i b=>by show Zlu (k+1) (Zd l) _ _=_;rw [ZlR,ZT,P3 (Z3 b)])
 rw [Uc,ZcN] at this;refine XR this ?_;rw [T0]
 cases l.all (fun x=>!decide (a=x))<;>rfl
def Ze6 (l:List Int) (i:Nat):Bool:=match l[i]? with | some x=>!((l.take i).any (fun y=>decide (x=y))) | none=>Xb
def KG (v:Vu):Bool:=JR v.number&&decide (v.members.length≤32)&&decide (v.owners.length≤16)&&(XW 0 v.members.length).all (fun i=>atB Zw v.members i&&Ze6 v.members i)&&v.owners.all Zw
def Znk {l:List Int} {i:Nat} (a:i < l.length):Ze6 l i = !((l.take i).any (fun y=>decide (l[i]=y))):=by
 unfold Ze6;rw [Xp a]
def ZGX (v:Vu) (b:v.members.length < 2^63) (c:v.owners.length < 2^63):ZzM v.number (Zd v.members) (Zd v.owners)=Xa (KG v):=by
 rw [ZxB,ZT,ZT,s33,Xd]
 have:=Jj (F:=fun k i=>Zer k v.number (Zd v.members) (Zd v.owners) (Zd v.members) (v.members.length:Int) i) (n:=v.members.length) (fin:=Xa (v.owners.all Zw)) (bad:=Xa Xc) (fun i=>atB Zw v.members i&&Ze6 v.members i) b 0 (by omega)
  (fun k i _ a=>by
   show Zer (k+1) _ _ _ _ _ _=_;rw [Zij,P4 (Z4 a)];refine (Z2 a _).trans ?_;rw [s34,Xd,Zg (by omega),Zg (by rw [ZT];omega),Uk,Zjt,ZKx _ (by rw [X5];omega),Xd,ZS a b,Jz _ a,Znk a]
   cases Zw v.members[i]<;>cases (v.members.take i).any (fun y=>decide (v.members[i]=y))<;>rfl)
  (fun k i a=>by
   show Zer (k+1) _ _ _ _ _ _=_;rw [Zij,P3 (Z3 a),Zr6 _ c,Xd,Bool.not_not])
 rw [Uc] at this;have this:Zer Zr v.number (Zd v.members) (Zd v.owners) (Zd v.members) (v.members.length:Int) 0=_:=this;rw [this];unfold KG;by_cases a1:v.members.length≤32
 ·by_cases a2:v.owners.length≤16
  ·rw [P3 (show ¬ (P0 .gtr (v.members.length:Int) 32)=Xb by simp only [CQ];omega),P3 (show ¬ (P0 .gtr (v.owners.length:Int) 16)=Xb by simp only [CQ];omega),decide_eq_true a1,decide_eq_true a2]
   cases JR v.number<;>cases (XW 0 v.members.length).all (fun i=>atB Zw v.members i&&Ze6 v.members i)<;>rfl
  ·rw [P3 (show ¬ (P0 .gtr (v.members.length:Int) 32)=Xb by simp only [CQ];omega),P4 (show (P0 .gtr (v.owners.length:Int) 16)=Xb by simp only [CQ];omega),decide_eq_false a2]
   cases JR v.number<;>simp
 ·rw [P4 (show (P0 .gtr (v.members.length:Int) 32)=Xb by simp only [CQ];omega),decide_eq_false a1]
  cases JR v.number<;>simp
def s58 (v:Vu) (c:v.members.length < 2^63) (d:v.owners.length < 2^63):g58 v.number (Zd v.members) (Zd v.owners)=Xa (KG v):=by
 rw [ZC5,ZT,ZT,s50,Xd]
 have b:=Jj (F:=fun k i=>ZkF k v.number (Zd v.members) (Zd v.owners) i) (n:=v.owners.length) (fin:=Xa Xb) (bad:=Xa Xc) (atB Zw v.owners) d 0 (by omega)
  (fun k i _ a=>by
   show ZkF (k+1) _ _ _ _=_;rw [ZmZ,ZT,P4 (Z4 a)];refine (Z2 a _).trans ?_;rw [s51,Xd,ZS a d,Jz _ a]
   cases Zw v.owners[i]<;>rfl)
  (fun k i a=>by
   show ZkF (k+1) _ _ _ _=_;rw [ZmZ,ZT,P3 (Z3 a)])
 rw [Uc,ZcN] at b;have b:ZkF Zr v.number (Zd v.members) (Zd v.owners) 0=_:=b
 have:=Jj (F:=fun k i=>ZkQ k v.number (Zd v.members) (Zd v.owners) i) (n:=v.members.length) (fin:=Xa (v.owners.all Zw)) (bad:=Xa Xc) (fun i=>atB Zw v.members i&&Ze6 v.members i) c 0 (by omega)
  (fun k i _ a=>by
   show ZkQ (k+1) _ _ _ _=_;rw [Zmh,ZT,P4 (Z4 a)];refine (Z2 a _).trans ?_;rw [s51,Xd,Zg (by omega),Zg (by omega),Uk,Zjt,ZS a c,Jz _ a,Znk a];simp only [Z2 a];rw [s79 _ (by rw [X5];omega),Xd]
   cases Zw v.members[i]<;>cases (v.members.take i).any (fun y=>decide (v.members[i]=y))<;>rfl)
  (fun k i a=>by
   show ZkQ (k+1) _ _ _ _=_;rw [Zmh,ZT,P3 (Z3 a),b]
   cases v.owners.all Zw<;>rfl)
 rw [Uc] at this;have this:ZkQ Zr v.number (Zd v.members) (Zd v.owners) 0=_:=this;rw [this];unfold KG;by_cases a1:v.members.length≤32
 ·by_cases a2:v.owners.length≤16
  ·rw [P3 (show ¬ (P0 .gtr (v.members.length:Int) 32)=Xb by simp only [CQ];omega),P3 (show ¬ (P0 .gtr (v.owners.length:Int) 16)=Xb by simp only [CQ];omega),decide_eq_true a1,decide_eq_true a2]
   cases JR v.number<;>cases (XW 0 v.members.length).all (fun i=>atB Zw v.members i&&Ze6 v.members i)<;>rfl
  ·rw [P3 (show ¬ (P0 .gtr (v.members.length:Int) 32)=Xb by simp only [CQ];omega),P4 (show (P0 .gtr (v.owners.length:Int) 16)=Xb by simp only [CQ];omega),decide_eq_false a2]
   cases JR v.number<;>simp
 ·rw [P4 (show (P0 .gtr (v.members.length:Int) 32)=Xb by simp only [CQ];omega),decide_eq_false a1]
  cases JR v.number<;>simp
structure Vu.Fits (v:Vu):Prop where
 members:v.members.length < 2^63
 owners:v.owners.length < 2^63
structure Js.Fits (r:Js):Prop where
 view:r.view.Fits
 state:r.state.Fits
 next:r.next.Fits
 proposal:r.proposal.Fits
def Zcy (r:Js):Bool:=Zw r.core&&KG r.view&&Yg r.state&&KG r.next&&Yg r.proposal
def ZKR (r:Js) (h:r.Fits):ZG3 r.core r.view.number (Zd r.view.members) (Zd r.view.owners) (r.state.slots.map Zv) (r.state.pending.map Jq) (r.state.marks.map Zz) (r.state.answers.map JB) (r.state.entries.map Zi) (Ze r.state.commits) r.ready r.next.number (Zd r.next.members) (Zd r.next.owners) (r.proposal.slots.map Zv) (r.proposal.pending.map Jq) (r.proposal.marks.map Zz) (r.proposal.answers.map JB) (r.proposal.entries.map Zi) (Ze r.proposal.commits)=Xa (Zcy r):=by
 rw [Zvb,s34,Xd,ZGX _ h.view.members h.view.owners,Xd,ZG1 _ h.state,Xd,ZGX _ h.next.members h.next.owners,Xd,ZG1 _ h.proposal,Xd];unfold Zcy
 cases Zw r.core<;>cases KG r.view<;>cases Yg r.state<;>cases KG r.next<;>cases Yg r.proposal<;>rfl
def s57 (r:Js) (h:r.Fits):g57 r.core r.view.number (Zd r.view.members) (Zd r.view.owners) (r.state.slots.map Zv) (r.state.pending.map Jq) (r.state.marks.map Zz) (r.state.answers.map JB) (r.state.entries.map Zi) (Ze r.state.commits) r.ready r.next.number (Zd r.next.members) (Zd r.next.owners) (r.proposal.slots.map Zv) (r.proposal.pending.map Jq) (r.proposal.marks.map Zz) (r.proposal.answers.map JB) (r.proposal.entries.map Zi) (Ze r.proposal.commits)=Xa (Zcy r):=by
 rw [ZBW,s51,Xd,s58 _ h.view.members h.view.owners,Xd,s59 _ h.state,Xd,s58 _ h.next.members h.next.owners,Xd,s59 _ h.proposal,Xd];unfold Zcy
 cases Zw r.core<;>cases KG r.view<;>cases Yg r.state<;>cases KG r.next<;>cases Yg r.proposal<;>rfl
structure Msg where
 kind:Int
 view:Int
 frm:Int
 to:Int
 round:Int
 region:Int
 slot:Int
 op:Id
 err:Int
 settled:Bool
 req:Req
 ids:List Id
 nodes:List Yc
 cores:List Int
 moves:List ZeF
 base:Int
 next:Vu
 state:JD
 report:Js
structure Msg.Fits (m:Msg):Prop where
 req:m.req.src.path.length < 2^63
 ids:m.ids.length < 2^63
 nodes:m.nodes.length < 2^63
 node:∀ x∈m.nodes,x.path.length < 2^63
 cores:m.cores.length < 2^63
 moves:m.moves.length < 2^63
 next:m.next.Fits
 state:m.state.Fits
 report:m.report.Fits
def Zt9 (m:Msg):Qt5:=(m.kind,m.view,m.frm,m.to,m.round,m.region,m.slot,m.op.core,m.op.op,m.op.part,m.err,m.settled,m.req.id.core,m.req.id.op,m.req.id.part,m.req.call.kind,m.req.call.slot,m.req.call.dest,m.req.call.core,m.req.call.mask,m.req.call.object,m.req.call.bits,m.req.call.level,m.req.call.offset,m.req.call.count,m.req.call.index,m.req.call.addr,m.req.region,m.req.width,m.req.src.id.core,m.req.src.id.op,m.req.src.id.part,(Ze m.req.src.path),m.req.src.cap.kind,m.req.src.cap.base,m.req.src.cap.bits,m.req.src.cap.rights,m.req.src.cap.width,m.req.src.cap.level,m.req.src.cap.device,(Ze m.ids),(m.nodes.map YM),(Zd m.cores),(m.moves.map YE),m.base,m.next.number,(Zd m.next.members),(Zd m.next.owners),(m.state.slots.map Zv),(m.state.pending.map Jq),(m.state.marks.map Zz),(m.state.answers.map JB),(m.state.entries.map Zi),(Ze m.state.commits),m.report.core,m.report.view.number,(Zd m.report.view.members),(Zd m.report.view.owners),(m.report.state.slots.map Zv),(m.report.state.pending.map Jq),(m.report.state.marks.map Zz),(m.report.state.answers.map JB),(m.report.state.entries.map Zi),(Ze m.report.state.commits),m.report.ready,m.report.next.number,(Zd m.report.next.members),(Zd m.report.next.owners),(m.report.proposal.slots.map Zv),(m.report.proposal.pending.map Jq),(m.report.proposal.marks.map Zz),(m.report.proposal.answers.map JB),(m.report.proposal.entries.map Zi),(Ze m.report.proposal.commits))
@[reducible] def ofM {a:Type} (f:Int→Int→Int→Int→Int→Int→Int→Int→Int→Int→Int→Bool→Int→Int→Int→Int→Int→Int→Int→Int→Int→Int→Int→Int→Int→Int→Int→Int→Int→Int→Int→Int→LL→Int→Int→Int→Int→Int→Int→Bool→LL→LL→LL→LL→Int→Int→LL→LL→LL→LL→LL→LL→LL→LL→Int→Int→LL→LL→LL→LL→LL→LL→LL→LL→Bool→Int→LL→LL→LL→LL→LL→LL→LL→LL→a) (m:Msg):a:=f m.kind m.view m.frm m.to m.round m.region m.slot m.op.core m.op.op m.op.part m.err m.settled m.req.id.core m.req.id.op m.req.id.part m.req.call.kind m.req.call.slot m.req.call.dest m.req.call.core m.req.call.mask m.req.call.object m.req.call.bits m.req.call.level m.req.call.offset m.req.call.count m.req.call.index m.req.call.addr m.req.region m.req.width m.req.src.id.core m.req.src.id.op m.req.src.id.part (Ze m.req.src.path) m.req.src.cap.kind m.req.src.cap.base m.req.src.cap.bits m.req.src.cap.rights m.req.src.cap.width m.req.src.cap.level m.req.src.cap.device (Ze m.ids) (m.nodes.map YM) (Zd m.cores) (m.moves.map YE) m.base m.next.number (Zd m.next.members) (Zd m.next.owners) (m.state.slots.map Zv) (m.state.pending.map Jq) (m.state.marks.map Zz) (m.state.answers.map JB) (m.state.entries.map Zi) (Ze m.state.commits) m.report.core m.report.view.number (Zd m.report.view.members) (Zd m.report.view.owners) (m.report.state.slots.map Zv) (m.report.state.pending.map Jq) (m.report.state.marks.map Zz) (m.report.state.answers.map JB) (m.report.state.entries.map Zi) (Ze m.report.state.commits) m.report.ready m.report.next.number (Zd m.report.next.members) (Zd m.report.next.owners) (m.report.proposal.slots.map Zv) (m.report.proposal.pending.map Jq) (m.report.proposal.marks.map Zz) (m.report.proposal.answers.map JB) (m.report.proposal.entries.map Zi) (Ze m.report.proposal.commits)
def ume {a:Type} (f:Int→Int→Int→Int→Int→Int→Int→Int→Int→Int→Int→Bool→Int→Int→Int→Int→Int→Int→Int→Int→Int→Int→Int→Int→Int→Int→Int→Int→Int→Int→Int→Int→LL→Int→Int→Int→Int→Int→Int→Bool→LL→LL→LL→LL→Int→Int→LL→LL→LL→LL→LL→LL→LL→LL→Int→Int→LL→LL→LL→LL→LL→LL→LL→LL→Bool→Int→LL→LL→LL→LL→LL→LL→LL→LL→a) (m:Msg):ofM f m=f m.kind m.view m.frm m.to m.round m.region m.slot m.op.core m.op.op m.op.part m.err m.settled m.req.id.core m.req.id.op m.req.id.part m.req.call.kind m.req.call.slot m.req.call.dest m.req.call.core m.req.call.mask m.req.call.object m.req.call.bits m.req.call.level m.req.call.offset m.req.call.count m.req.call.index m.req.call.addr m.req.region m.req.width m.req.src.id.core m.req.src.id.op m.req.src.id.part (Ze m.req.src.path) m.req.src.cap.kind m.req.src.cap.base m.req.src.cap.bits m.req.src.cap.rights m.req.src.cap.width m.req.src.cap.level m.req.src.cap.device (Ze m.ids) (m.nodes.map YM) (Zd m.cores) (m.moves.map YE) m.base m.next.number (Zd m.next.members) (Zd m.next.owners) (m.state.slots.map Zv) (m.state.pending.map Jq) (m.state.marks.map Zz) (m.state.answers.map JB) (m.state.entries.map Zi) (Ze m.state.commits) m.report.core m.report.view.number (Zd m.report.view.members) (Zd m.report.view.owners) (m.report.state.slots.map Zv) (m.report.state.pending.map Jq) (m.report.state.marks.map Zz) (m.report.state.answers.map JB) (m.report.state.entries.map Zi) (Ze m.report.state.commits) m.report.ready m.report.next.number (Zd m.report.next.members) (Zd m.report.next.owners) (m.report.proposal.slots.map Zv) (m.report.proposal.pending.map Jq) (m.report.proposal.marks.map Zz) (m.report.proposal.answers.map JB) (m.report.proposal.entries.map Zi) (Ze m.report.proposal.commits):=rfl
def ZtW:Call:=⟨0,0,0,0,0,0,0,0,0,0,0,0⟩
def Jr:Req:=⟨zid,ZtW,0,0,Z5⟩
def ZW:Vu:=⟨0,[],[]⟩
def Zk:JD:=⟨[],[],[],[],[],[]⟩
def Zn:Js:=⟨0,ZW,Zk,Xc,ZW,Zk⟩
def clr (m:Msg):Nat→Msg
 | 0 => { m with region := 0 }
 | 1 => { m with req := Jr }
 | 2 => { m with op := zid }
 | 3 => { m with err := 0 }
 | 4 => { m with settled := Xc }
 | 5 => { m with nodes := [] }
 | 6 => { m with slot := 0 }
 | 7 => { m with ids := [] }
 | 8 => { m with round := 0 }
 | 9 => { m with cores := [] }
 | 10 => { m with report := Zn }
 | 11 => { m with base := 0 }
 | 12 => { m with next := ZW }
 | 13 => { m with state := Zk }
 | 14 => { m with moves := [] }
 | _ => m
def s36 (m:Msg):∀ f:Nat,f < 15→ofM g36 m (f:Int)=Xa (Zt9 (clr m f))
 | 0, _ => (Vo ..).trans rfl
 | 1, _ => (Vo ..).trans rfl
 | 2, _ => (Vo ..).trans rfl
 | 3, _ => (Vo ..).trans rfl
 | 4, _ => (Vo ..).trans rfl
 | 5, _ => (Vo ..).trans rfl
 | 6, _ => (Vo ..).trans rfl
 | 7, _ => (Vo ..).trans rfl
 | 8, _ => (Vo ..).trans rfl
 | 9, _ => (Vo ..).trans rfl
 | 10, _ => (Vo ..).trans rfl
 | 11, _ => (Vo ..).trans rfl
 | 12, _ => (Vo ..).trans rfl
 | 13, _ => (Vo ..).trans rfl
 | 14, _ => (Vo ..).trans rfl
def ZJG (m:Msg) {j:Nat} (a:j+1 < m.cores.length):ofM (ZC8 (j:Int) ((j+1:Nat):Int)) m=Xa (ltI m.cores[j] m.cores[j+1],Zt9 m):=by
 unfold ofM;rw [Zvk];refine (Z2 (show j < m.cores.length by omega) _).trans ?_;refine (Z2 a _).trans ?_;rfl
def Zr0 (m:Msg) (h:m.Fits):ofM (Zbf (m.cores.length:Int)) m=Xa (Ve ltI m.cores,Zt9 m):=by
 unfold ofM;rw [ZkJ]
 have:=Jj (F:=fun k i=>ofM (Zab k (m.cores.length:Int) i) m) (n:=m.cores.length) (fin:=Xa (Xb,Zt9 m)) (bad:=Xa (Xc,Zt9 m)) (Wi ltI m.cores) h.cores 1 (by omega)
  (fun k i b a=>by
   obtain ⟨j,rfl⟩:∃ j,i=j+1:=⟨i-1,by omega⟩;refine (ZbQ ..).trans ?_;rw [P4 (Z4 a),Zfh (by have:=h.cores;omega),← ume (ZC8 _ _) m,ZJG m a,Xd,ZS a h.cores,KS _ a]
   cases ltI m.cores[j] m.cores[j+1]<;>rfl)
  (fun k i a=>by refine (ZbQ ..).trans ?_;rw [P3 (Z3 a)];rfl)
 rw [ZBj] at this;refine XR this ?_
 cases Ve ltI m.cores<;>rfl
def Zh (m:Msg):Nat→Bool
 | 0 => Jo m.region
 | 1 => Kl m.req
 | 2 => Za4 m.op
 | 3 => Zcq m.err
 | 5 => decide (m.nodes.length ≤ 8) && (decide (m.kind ≠ 4) || decide (m.nodes.length = 1)) && m.nodes.all ZD
 | 6 => JO m.slot
 | 7 => decide (m.ids.length ≤ 64) && m.ids.all Vx
 | 8 => JR m.round
 | 9 => ZaV m.cores
 | 10 => Zcy m.report
 | 11 => JR m.base
 | 12 => KG m.next
 | 13 => Yg m.state
 | 14 => decide (m.moves.length ≤ 16) && m.moves.all KV
 | _ => Xb
def s35 (m:Msg) (h:m.Fits):∀ f:Nat,f < 15→ofM g35 m (f:Int)=Xa (Zh m f)
 | 0, _ => by
   refine (Vr ..).trans ?_;exact (congrArg (fun x=>X8 x Xa) (s89 _))
 | 1, _ => by
   refine (Vr ..).trans ?_;exact (congrArg (fun x=>X8 x Xa) (s90 _ h.req))
 | 2, _ => by
   refine (Vr ..).trans ?_;exact (congrArg (fun x=>X8 x Xa) (s91 _))
 | 3, _ => by
   refine (Vr ..).trans ?_;exact (congrArg (fun x=>X8 x Xa) (s92 _))
 | 4, _ => by
   refine (Vr ..).trans ?_;rfl
 | 5, _ => by
   refine (Vr ..).trans ?_;show (if (P0 .gtr ((m.nodes.map YM).length:Int) 8)=Xb then Xa Xc else if (P0 .eql m.kind 4)=Xb then (if (P0 .neq ((m.nodes.map YM).length:Int) 1)=Xb then Xa Xc else (ZfI (m.nodes.map YM)).bind fun r=>Xa (!r)) else (ZfI (m.nodes.map YM)).bind fun r=>Xa (!r))=_;rw [Xk,ZB9 _ h.nodes h.node]
   repeat' split
   all_goals (refine congrArg Xa ?_;rw [Zm];simp only [Zh,Bool.not_not,CQ] at * <;> grind)
 | 6, _ => by
   refine (Vr ..).trans ?_;exact (congrArg (fun x=>X8 x Xa) (s96 _))
 | 7, _ => by
   refine (Vr ..).trans ?_;show (if (P0 .leq ((Ze m.ids).length:Int) 64)=Xb then (Zl9 (Ze m.ids)).bind fun r=>Xa (!r) else Xa Xc)=_;rw [ZX,ZA7 _ h.ids]
   repeat' split
   all_goals (refine congrArg Xa ?_;rw [Zm];simp only [Zh,Bool.not_not,CQ] at * <;> grind)
 | 8, _ => by
   refine (Vr ..).trans ?_;exact (congrArg (fun x=>X8 x Xa) (s33 _))
 | 9, _ => by
   refine (Vr ..).trans ?_;show ((Zdg (Zd m.cores)).bind fun (r:Bool)=>if (!r)=Xb then (Zbf ((Zd m.cores).length:Int) m.kind m.view m.frm m.to m.round m.region m.slot m.op.core m.op.op m.op.part m.err m.settled m.req.id.core m.req.id.op m.req.id.part m.req.call.kind m.req.call.slot m.req.call.dest m.req.call.core m.req.call.mask m.req.call.object m.req.call.bits m.req.call.level m.req.call.offset m.req.call.count m.req.call.index m.req.call.addr m.req.region m.req.width m.req.src.id.core m.req.src.id.op m.req.src.id.part (Ze m.req.src.path) m.req.src.cap.kind m.req.src.cap.base m.req.src.cap.bits m.req.src.cap.rights m.req.src.cap.width m.req.src.cap.level m.req.src.cap.device (Ze m.ids) (m.nodes.map YM) (Zd m.cores) (m.moves.map YE) m.base m.next.number (Zd m.next.members) (Zd m.next.owners) (m.state.slots.map Zv) (m.state.pending.map Jq) (m.state.marks.map Zz) (m.state.answers.map JB) (m.state.entries.map Zi) (Ze m.state.commits) m.report.core m.report.view.number (Zd m.report.view.members) (Zd m.report.view.owners) (m.report.state.slots.map Zv) (m.report.state.pending.map Jq) (m.report.state.marks.map Zz) (m.report.state.answers.map JB) (m.report.state.entries.map Zi) (Ze m.report.state.commits) m.report.ready m.report.next.number (Zd m.report.next.members) (Zd m.report.next.owners) (m.report.proposal.slots.map Zv) (m.report.proposal.pending.map Jq) (m.report.proposal.marks.map Zz) (m.report.proposal.answers.map JB) (m.report.proposal.entries.map Zi) (Ze m.report.proposal.commits)).bind fun r=>Xa r.1 else Xa Xc)=_;rw [Zs3 _ h.cores,ZT,← ume (Zbf _) m,Zr0 m h,Xd,Xd];show _=Xa (m.cores.all Zw&&Ve ltI m.cores)
   cases m.cores.all Zw<;>rfl
 | 10, _ => by
   refine (Vr ..).trans ?_;exact (congrArg (fun x=>X8 x Xa) (ZKR _ h.report))
 | 11, _ => by
   refine (Vr ..).trans ?_;exact (congrArg (fun x=>X8 x Xa) (s33 _))
 | 12, _ => by
   refine (Vr ..).trans ?_;exact (congrArg (fun x=>X8 x Xa) (ZGX _ h.next.members h.next.owners))
 | 13, _ => by
   refine (Vr ..).trans ?_;exact (congrArg (fun x=>X8 x Xa) (ZG1 _ h.state))
 | 14, _ => by
   refine (Vr ..).trans ?_;show (if (P0 .leq ((m.moves.map YE).length:Int) 16)=Xb then (Zdn (m.moves.map YE)).bind fun r=>Xa (!r) else Xa Xc)=_;rw [Xk,ZrO _ h.moves]
   repeat' split
   all_goals (refine congrArg Xa ?_;rw [Zm];simp only [Zh,Bool.not_not,CQ] at * <;> grind)
def Zrx (r:Req):Bool:=decide (r.id=zid)&&decide (r.call.kind=0∧r.call.slot=0∧r.call.dest=0∧r.call.core=0∧r.call.mask=0∧r.call.object=0∧r.call.bits=0∧r.call.level=0∧r.call.offset=0∧r.call.count=0∧r.call.index=0∧r.call.addr=0)&&decide (r.region=0)&&decide (r.width=0)&&K0 r.src Z5
def Zb2 (v:Vu):Bool:=decide (v.number=0)&&decide (v.members.length=0)&&decide (v.owners.length=0)
def VW (s:JD):Bool:=decide (s.slots.length=0)&&decide (s.pending.length=0)&&decide (s.marks.length=0)&&decide (s.answers.length=0)&&decide (s.entries.length=0)&&decide (s.commits.length=0)
def VO (r:Js):Bool:=decide (r.core=0)&&Zb2 r.view&&VW r.state&&!r.ready&&Zb2 r.next&&VW r.proposal
def ZoF (n:Nat):P0 .eql (n:Int) 0=decide (n=0):=by rw [Zm];simp only [CQ];omega
def ZwH (z:Int):P0 .eql z 0=decide (z=0):=rfl
def ZLf (r:Req) (h:r.src.path.length < 2^63):ZHD r.id.core r.id.op r.id.part r.call.kind r.call.slot r.call.dest r.call.core r.call.mask r.call.object r.call.bits r.call.level r.call.offset r.call.count r.call.index r.call.addr r.region r.width r.src.id.core r.src.id.op r.src.id.part (Ze r.src.path) r.src.cap.kind r.src.cap.base r.src.cap.bits r.src.cap.rights r.src.cap.width r.src.cap.level r.src.cap.device=Xa (Zrx r):=by
 rw [ZxG,Zvt _ h,Xd];simp only [Kx,KY];unfold Zrx
 repeat' split
 all_goals (refine congrArg Xa ?_;rw [Zm];simp only [CQ] at * <;> grind)
def ZH7 (v:Vu):ZBa v.number (Zd v.members) (Zd v.owners)=Xa (Zb2 v):=by
 rw [ZwX,ZT,ZT,ZoF,ZoF,ZwH];unfold Zb2
 cases decide (v.number=0)<;>cases decide (v.members.length=0)<;>rfl
def ZGo (s:JD):ZCb (s.slots.map Zv) (s.pending.map Jq) (s.marks.map Zz) (s.answers.map JB) (s.entries.map Zi) (Ze s.commits)=Xa (VW s):=by
 rw [Zvx,Xk,Xk,Xk,Xk,Xk,ZX,ZoF,ZoF,ZoF,ZoF,ZoF,ZoF];unfold VW
 cases decide (s.slots.length=0)<;>cases decide (s.pending.length=0)<;>cases decide (s.marks.length=0)<;>cases decide (s.answers.length=0)<;>cases decide (s.entries.length=0)<;>rfl
def ZKf (r:Js):ZHG r.core r.view.number (Zd r.view.members) (Zd r.view.owners) (r.state.slots.map Zv) (r.state.pending.map Jq) (r.state.marks.map Zz) (r.state.answers.map JB) (r.state.entries.map Zi) (Ze r.state.commits) r.ready r.next.number (Zd r.next.members) (Zd r.next.owners) (r.proposal.slots.map Zv) (r.proposal.pending.map Jq) (r.proposal.marks.map Zz) (r.proposal.answers.map JB) (r.proposal.entries.map Zi) (Ze r.proposal.commits)=Xa (VO r):=by
 rw [ZxN,ZH7,ZGo,ZH7,ZGo,ZwH,Xd,Xd,Xd,Xd];unfold VO
 cases decide (r.core=0)<;>cases Zb2 r.view<;>cases VW r.state<;>cases r.ready<;>cases Zb2 r.next<;>rfl
def zf (m:Msg):Nat→Bool
 | 0 => decide (m.region = 0)
 | 1 => Zrx m.req
 | 2 => decide (m.op = zid)
 | 3 => decide (m.err = 0)
 | 4 => !m.settled
 | 5 => decide (m.nodes.length = 0)
 | 6 => decide (m.slot = 0)
 | 7 => decide (m.ids.length = 0)
 | 8 => decide (m.round = 0)
 | 9 => decide (m.cores.length = 0)
 | 10 => VO m.report
 | 11 => decide (m.base = 0)
 | 12 => Zb2 m.next
 | 13 => VW m.state
 | 14 => decide (m.moves.length = 0)
 | _ => Xb
def ZHt (m:Msg):Bool:=(Ue 15).all (zf m)
def JU (b:Bool) {y:Bool} {x:Option Bool} (h:x=Xa y):(if b=Xb then x else Xa Xc)=Xa (b&&y):=by cases b<;>simp [h]
def s37 (m:Msg) (h:m.req.src.path.length < 2^63):ofM g37 m=Xa (ZHt m):=by
 unfold ofM;rw [ZBK,ZLf _ h,ZH7,ZGo,ZKf,ZX,Xk,ZT,Xk,ZoF,ZoF,ZoF,ZoF,ZwH m.round,ZwH m.region,ZwH m.slot,ZwH m.err,ZwH m.base]
 have e:((P0 .eql m.op.core 0)&&((P0 .eql m.op.op 0)&&((P0 .eql m.op.part 0)&&Xb)))=decide (m.op=zid):=by
  rw [Zm,Kx,KY,P5]
 rw [e];simp only [Xd];refine XR (JU _ (JU _ (JU _ (JU _ (JU _ (JU _ (JU _ (JU _ (JU _ (JU _ (JU _ (JU _ (JU _ (JU _ (rfl))))))))))))))) ?_;refine congrArg Xa ?_;show _=(zf m 0&&(zf m 1&&(zf m 2&&(zf m 3&&(zf m 4&&(zf m 5&&(zf m 6&&(zf m 7&&(zf m 8&&(zf m 9&&(zf m 10&&(zf m 11&&(zf m 12&&(zf m 13&&(zf m 14&&Xb)))))))))))))));simp only [zf,X6];ac_rfl
def kf:Nat→List Nat
 | 1 => [0, 1]
 | 2 => [0, 2, 3, 4, 5]
 | 3 => [0, 2]
 | 4 => [0, 2, 6, 5]
 | 5 => [0, 2, 3]
 | 6 => [0, 2, 7]
 | 7 => [0, 2]
 | 8 => [0, 2]
 | 9 => [0, 2]
 | 10 => [0, 2]
 | 11 => [0, 2]
 | 12 => [8, 9]
 | 13 => [8, 10]
 | 14 => [8, 11, 9, 12, 13]
 | 15 => [8]
 | 16 => [8]
 | 17 => [9, 14]
 | _ => []
def fc (l:List Nat):List (List AV):=l.map fun f:Nat=>[I (f:Int)]
def s32:∀ n:Nat,1≤n→n≤17→g32 (n:Int)=Xa (fc (kf n),Xb)
 | 1, _, _ => by rw [Kp]; rfl
 | 2, _, _ => by rw [Kp]; rfl
 | 3, _, _ => by rw [Kp]; rfl
 | 4, _, _ => by rw [Kp]; rfl
 | 5, _, _ => by rw [Kp]; rfl
 | 6, _, _ => by rw [Kp]; rfl
 | 7, _, _ => by rw [Kp]; rfl
 | 8, _, _ => by rw [Kp]; rfl
 | 9, _, _ => by rw [Kp]; rfl
 | 10, _, _ => by rw [Kp]; rfl
 | 11, _, _ => by rw [Kp]; rfl
 | 12, _, _ => by rw [Kp]; rfl
 | 13, _, _ => by rw [Kp]; rfl
 | 14, _, _ => by rw [Kp]; rfl
 | 15, _, _ => by rw [Kp]; rfl
 | 16, _, _ => by rw [Kp]; rfl
 | 17, _, _ => by rw [Kp]; rfl
 | n + 18, _, h => absurd h (by omega)
def ZIv (k:Int) (h:¬ (1≤k∧k≤17)):g32 k=Xa (E0,Xc):=by
 rw [Kp];rw [P3 (show ¬ (P0 .eql k 1)=Xb by simp only [CQ];omega)];rw [P3 (show ¬ (P0 .eql k 2)=Xb by simp only [CQ];omega)];rw [P3 (show ¬ (P0 .eql k 3)=Xb by simp only [CQ];omega)];rw [P3 (show ¬ (P0 .eql k 7)=Xb by simp only [CQ];omega)];rw [P3 (show ¬ (P0 .eql k 8)=Xb by simp only [CQ];omega)];rw [P3 (show ¬ (P0 .eql k 9)=Xb by simp only [CQ];omega)];rw [P3 (show ¬ (P0 .eql k 10)=Xb by simp only [CQ];omega)];rw [P3 (show ¬ (P0 .eql k 11)=Xb by simp only [CQ];omega)];rw [P3 (show ¬ (P0 .eql k 4)=Xb by simp only [CQ];omega)];rw [P3 (show ¬ (P0 .eql k 5)=Xb by simp only [CQ];omega)];rw [P3 (show ¬ (P0 .eql k 6)=Xb by simp only [CQ];omega)];rw [P3 (show ¬ (P0 .eql k 12)=Xb by simp only [CQ];omega)];rw [P3 (show ¬ (P0 .eql k 13)=Xb by simp only [CQ];omega)];rw [P3 (show ¬ (P0 .eql k 14)=Xb by simp only [CQ];omega)];rw [P3 (show ¬ (P0 .eql k 15)=Xb by simp only [CQ];omega)];rw [P3 (show ¬ (P0 .eql k 16)=Xb by simp only [CQ];omega)];rw [P3 (show ¬ (P0 .eql k 17)=Xb by simp only [CQ];omega)]
def Zxy (n:Nat):∀ f∈kf n,f < 15:=by
 intro f a;unfold kf at a;split at a<;>simp at a<;>omega
def Zls {γ:Type} {l:List Nat} {i:Nat} (h:i < l.length) (k:Int→Option γ):Zj (fc l) (i:Int) [.int .i64] k=k (l[i] : Int):=Y3 (f:=fun n:Nat=>[I (n:Int)]) (sh:=[.int .i64]) (v:=fun n:Nat=>(n:Int)) (fun _=>rfl) h k
def Zti (r:Msg) (f:Nat) (h:r.req.src.path.length < 2^63):(clr r f).req.src.path.length < 2^63:=by
 unfold clr;split<;>first | exact h | (show ([] : List Id).length < 2^63;simp)
def l12 (m:Msg) (h:m.Fits) (L:List Nat) (g:∀ f∈L,f < 15) (k:L.length < 2^63):∀ (j i a:Nat) (r:Msg),L.length=i+j→j < a→r.req.src.path.length < 2^63→
  ofM (ofM (Zsc a) m) r (fc L) (L.length:Int) (i:Int)=Xa ((L.drop i).all (Zh m)&&ZHt ((L.drop i).foldl clr r)):=by
 unfold ofM;intro j
 induction j with
 | zero =>
  intro i a r d l e;obtain ⟨f,rfl⟩:∃ f,a=f+1:=⟨a-1,by omega⟩;refine (Zmr ..).trans ?_;rw [P3 (Z3 (by omega)),← ume g37 r,s37 r e,Xd,Up (by omega)];rfl
 | succ j ih =>
  intro i a r d l e;obtain ⟨f,rfl⟩:∃ f,a=f+1:=⟨a-1,by omega⟩;have b:i < L.length:=by omega
  have c:=g _ (Xq b);refine (Zmr ..).trans ?_;rw [P4 (Z4 b)];refine (Zls b _).trans ?_;rw [← ume g35 m,s35 m h _ c,Xd,UF b,XU,List.foldl_cons,ZS b k]
  cases Zh m L[i] with
  | false => rfl
  | true =>
   rw [P3 (by simp),← ume g36 r,s36 r _ c,Xd,XP];exact ih (i+1) f (clr r L[i]) (by omega) (by omega) (Zti r _ e)
def kindOk (k:Int):Bool:=decide (1≤k∧k≤17)
def headOk (m:Msg):Bool:=kindOk m.kind&&JR m.view&&Zw m.frm&&Zw m.to
def rest (n:Nat) (m:Msg):Bool:=(Ue 15).all (fun g=>(kf n).contains g||zf m g)
def Z1 (m:Msg):Bool:=headOk m&&((kf m.kind.toNat).all (Zh m)&&rest m.kind.toNat m)
def ZvX (m:Msg):∀ n:Nat,1≤n→n≤17→ZHt ((kf n).foldl clr m)=rest n m
 | 1, _, _ => by kernel_rfl
 | 2, _, _ => by kernel_rfl
 | 3, _, _ => by kernel_rfl
 | 4, _, _ => by kernel_rfl
 | 5, _, _ => by kernel_rfl
 | 6, _, _ => by kernel_rfl
 | 7, _, _ => by kernel_rfl
 | 8, _, _ => by kernel_rfl
 | 9, _, _ => by kernel_rfl
 | 10, _, _ => by kernel_rfl
 | 11, _, _ => by kernel_rfl
 | 12, _, _ => by kernel_rfl
 | 13, _, _ => by kernel_rfl
 | 14, _, _ => by kernel_rfl
 | 15, _, _ => by kernel_rfl
 | 16, _, _ => by kernel_rfl
 | 17, _, _ => by kernel_rfl
 | n + 18, _, h => absurd h (by omega)
def s12 (m:Msg) (h:m.Fits):ofM g12 m=Xa (Z1 m):=by
 unfold ofM;rw [ZBx];unfold Z1 headOk;by_cases hk:1≤m.kind∧m.kind≤17
 ·obtain ⟨n,g⟩:∃ n:Nat,m.kind=n:=⟨m.kind.toNat,by omega⟩;have c:kindOk m.kind=Xb:=decide_eq_true hk;have d:g32 m.kind=Xa (fc (kf n),Xb):=by rw [g];exact s32 n (by omega) (by omega)
  rw [d,Xd,s33,s34,s34,Xd,Xd,Xd,c];have a:(fc (kf n)).length=(kf n).length:=Xk _
  have b:(kf n).length < 2^63:=by
   have:(kf n).length≤5:=by unfold kf;split<;>simp
   omega
  have e:=l12 m h (kf n) (Zxy n) b (kf n).length 0 Zr m (by omega) (by have:=Yi b;omega) h.req;rw [X7,ZvX m n (by omega) (by omega)] at e;have f:m.kind.toNat=n:=by omega
  rw [f];dsimp only;rw [a];refine (P3 (by simp)).trans ?_
  cases JR m.view<;>cases Zw m.frm<;>cases Zw m.to<;>first | rfl | exact e
 ·have c:kindOk m.kind=Xc:=decide_eq_false hk;rw [ZIv _ hk,Xd,c];rfl
def ZtJ (a b:Int):P0 .eql a b=decide (a=b):=rfl
def at2 {c:Type} (q:c→c→Bool) (l m:List c) (i:Nat):Bool:=match l[i]?,m[i]? with | some a,Xa b=>q a b | _,_=>Xb
def Yz {a:Type} (q:a→a→Bool) (l m:List a):Bool:=decide (l.length=m.length)&&(XW 0 l.length).all (at2 q l m)
def Zbc {a:Type} (q:a→a→Bool) {l m:List a} {i:Nat} (h:i < l.length) (b:i < m.length):at2 q l m i=q l[i] m[i]:=by
 unfold at2;rw [Xp h,Xp b]
def Zbj (a b:Req):Bool:=decide (a.id.core=b.id.core∧a.id.op=b.id.op∧a.id.part=b.id.part)&&decide (a.call.kind=b.call.kind∧a.call.slot=b.call.slot∧a.call.dest=b.call.dest∧a.call.core=b.call.core∧a.call.mask=b.call.mask∧a.call.object=b.call.object∧a.call.bits=b.call.bits∧a.call.level=b.call.level∧a.call.offset=b.call.offset∧a.call.count=b.call.count∧a.call.index=b.call.index∧a.call.addr=b.call.addr)&&decide (a.region=b.region)&&decide (a.width=b.width)&&K0 a.src b.src
def s68 (a b:Req) (c:a.src.path.length < 2^63) (d:b.src.path.length < 2^63):g68 a.id.core a.id.op a.id.part a.call.kind a.call.slot a.call.dest a.call.core a.call.mask a.call.object a.call.bits a.call.level a.call.offset a.call.count a.call.index a.call.addr a.region a.width a.src.id.core a.src.id.op a.src.id.part (Ze a.src.path) a.src.cap.kind a.src.cap.base a.src.cap.bits a.src.cap.rights a.src.cap.width a.src.cap.level a.src.cap.device b.id.core b.id.op b.id.part b.call.kind b.call.slot b.call.dest b.call.core b.call.mask b.call.object b.call.bits b.call.level b.call.offset b.call.count b.call.index b.call.addr b.region b.width b.src.id.core b.src.id.op b.src.id.part (Ze b.src.path) b.src.cap.kind b.src.cap.base b.src.cap.bits b.src.cap.rights b.src.cap.width b.src.cap.level b.src.cap.device=Xa (Zbj a b):=by
 rw [Zzr,Zqx _ _ c d,Xd];unfold Zbj
 repeat' split
 all_goals (refine congrArg Xa ?_;rw [Zm];simp only [CQ] at * <;> grind)
def s70 (l m:List Yc) (c:l.length < 2^63) (d:∀ x∈l,x.path.length < 2^63) (e:∀ x∈m,x.path.length < 2^63):g70 (l.map YM) (m.map YM)=Xa (Yz K0 l m):=by
 rw [ZBq,Xk,Xk];unfold Yz;by_cases h:l.length=m.length
 ·rw [P3 (show ¬ (P0 .neq (l.length:Int) (m.length:Int))=Xb by simp only [CQ];omega),decide_eq_true h,XP]
  have:=Jj (F:=fun k i=>ZqL k (l.map YM) (m.map YM) i) (n:=l.length) (fin:=Xa Xb) (bad:=Xa Xc) (at2 K0 l m) c 0 (by omega)
   (fun k i _ b=>by
    have a:i < m.length:=by omega
    refine (ZlJ ..).trans ?_;rw [Xk,P4 (Z4 b)];refine (Y8 b _).trans ?_;refine (Y8 a _).trans ?_;rw [ZS b c,Zbc _ b a];generalize ZqL k (l.map YM) (m.map YM) ((i+1:Nat):Int)=X
    try simp only [Y8 b,Y8 a,Ziv,d2,d4,d8,P2,d6,df,dg,dh,di,dj,dk,dl,Zqx _ _ (d _ (Xq b)) (e _ (Xq a)),Xd]
    skip
    repeat' split
    all_goals (simp only [ZtJ,CQ] at * <;> grind))
   (fun k i b=>by refine (ZlJ ..).trans ?_;rw [Xk,P3 (Z3 b)])
  rw [Uc] at this;refine XR this ?_
  cases (XW 0 l.length).all (at2 K0 l m)<;>rfl
 ·rw [P4 (show (P0 .neq (l.length:Int) (m.length:Int))=Xb by simp only [CQ];omega),decide_eq_false h];rfl
def Zbs:Int→Int→Bool:=fun a b=>decide (a=b)
def s71 (l m:List Int) (e:l.length < 2^63):g71 (Zd l) (Zd m)=Xa (Yz Zbs l m):=by
 rw [ZBH,ZT,ZT];unfold Yz;by_cases h:l.length=m.length
 ·rw [P3 (show ¬ (P0 .neq (l.length:Int) (m.length:Int))=Xb by simp only [CQ];omega),decide_eq_true h,XP]
  have:=Jj (F:=fun k i=>Zo6 k (Zd l) (Zd m) i) (n:=l.length) (fin:=Xa Xb) (bad:=Xa Xc) (at2 Zbs l m) e 0 (by omega)
   (fun k i _ c=>by
    have d:i < m.length:=by omega
    refine (Znv ..).trans ?_;rw [ZT,P4 (Z4 c)];refine (Z2 c _).trans ?_;refine (Z2 d _).trans ?_;rw [ZS c e,Zbc _ c d];generalize Zo6 k (Zd l) (Zd m) ((i+1:Nat):Int)=X
    try simp only [Z2 c,Z2 d,d2,d4,d8,P2,d6,df,dg,dh,di,dj,dk,dl,Xd]
    generalize l[i]=a;generalize m[i]=b;unfold Zbs
    repeat' split
    all_goals (simp only [ZtJ,CQ] at * <;> grind))
   (fun k i c=>by refine (Znv ..).trans ?_;rw [ZT,P3 (Z3 c)])
  rw [Uc] at this;refine XR this ?_
  cases (XW 0 l.length).all (at2 Zbs l m)<;>rfl
 ·rw [P4 (show (P0 .neq (l.length:Int) (m.length:Int))=Xb by simp only [CQ];omega),decide_eq_false h];rfl
def ZaC:ZeF→ZeF→Bool:=fun a b=>decide (a.region=b.region∧a.to=b.to)
def s72 (l m:List ZeF) (e:l.length < 2^63):g72 (l.map YE) (m.map YE)=Xa (Yz ZaC l m):=by
 rw [ZBN,Xk,Xk];unfold Yz;by_cases h:l.length=m.length
 ·rw [P3 (show ¬ (P0 .neq (l.length:Int) (m.length:Int))=Xb by simp only [CQ];omega),decide_eq_true h,XP]
  have:=Jj (F:=fun k i=>Zpn k (l.map YE) (m.map YE) i) (n:=l.length) (fin:=Xa Xb) (bad:=Xa Xc) (at2 ZaC l m) e 0 (by omega)
   (fun k i _ c=>by
    have d:i < m.length:=by omega
    refine (ZlG ..).trans ?_;rw [Xk,P4 (Z4 c)];refine (Yt c _).trans ?_;refine (Yt d _).trans ?_;rw [ZS c e,Zbc _ c d];generalize Zpn k (l.map YE) (m.map YE) ((i+1:Nat):Int)=X
    try simp only [Yt c,Yt d,d2,d4,d8,P2,d6,df,dg,dh,di,dj,dk,dl,Xd]
    generalize l[i]=a;generalize m[i]=b;unfold ZaC
    repeat' split
    all_goals (simp only [ZtJ,CQ] at * <;> grind))
   (fun k i c=>by refine (ZlG ..).trans ?_;rw [Xk,P3 (Z3 c)])
  rw [Uc] at this;refine XR this ?_
  cases (XW 0 l.length).all (at2 ZaC l m)<;>rfl
 ·rw [P4 (show (P0 .neq (l.length:Int) (m.length:Int))=Xb by simp only [CQ];omega),decide_eq_false h];rfl
def Zkg:YN→YN→Bool:=fun a b=>decide (a.op=b.op)&&decide (a.lock.core=b.lock.core∧a.lock.op=b.lock.op∧a.lock.part=b.lock.part)&&K0 a.node b.node
def ZJw (l m:List YN) (e:l.length < 2^63) (f:∀ x∈l,x.node.path.length < 2^63) (g:∀ x∈m,x.node.path.length < 2^63):ZFb (l.map Zv) (m.map Zv)=Xa (Yz Zkg l m):=by
 rw [ZwU,Xk,Xk];unfold Yz;by_cases h:l.length=m.length
 ·rw [P3 (show ¬ (P0 .neq (l.length:Int) (m.length:Int))=Xb by simp only [CQ];omega),decide_eq_true h,XP]
  have:=Jj (F:=fun k i=>ZiS k (l.map Zv) (m.map Zv) i) (n:=l.length) (fin:=Xa Xb) (bad:=Xa Xc) (at2 Zkg l m) e 0 (by omega)
   (fun k i _ d=>by
    have c:i < m.length:=by omega
    refine (ZhZ ..).trans ?_;rw [Xk,P4 (Z4 d)];refine (JQ d _).trans ?_;refine (JQ c _).trans ?_;rw [ZS d e,Zbc _ d c];generalize ZiS k (l.map Zv) (m.map Zv) ((i+1:Nat):Int)=X
    try simp only [JQ d,JQ c,Ze7,d2,d4,d8,P2,d6,df,dg,dh,di,dj,dk,dl,Zqx _ _ (f _ (Xq d)) (g _ (Xq c)),Xd]
    generalize l[i]=a;generalize m[i]=b;unfold Zkg
    repeat' split
    all_goals (simp only [ZtJ,CQ] at * <;> grind))
   (fun k i d=>by refine (ZhZ ..).trans ?_;rw [Xk,P3 (Z3 d)])
  rw [Uc] at this;refine XR this ?_
  cases (XW 0 l.length).all (at2 Zkg l m)<;>rfl
 ·rw [P4 (show (P0 .neq (l.length:Int) (m.length:Int))=Xb by simp only [CQ];omega),decide_eq_false h];rfl
def ZJF (l m:List Req) (c:l.length < 2^63) (d:∀ x∈l,x.src.path.length < 2^63) (e:∀ x∈m,x.src.path.length < 2^63):ZGz (l.map Jq) (m.map Jq)=Xa (Yz Zbj l m):=by
 rw [Zwx,Xk,Xk];unfold Yz;by_cases h:l.length=m.length
 ·rw [P3 (show ¬ (P0 .neq (l.length:Int) (m.length:Int))=Xb by simp only [CQ];omega),decide_eq_true h,XP]
  have:=Jj (F:=fun k i=>Zj4 k (l.map Jq) (m.map Jq) i) (n:=l.length) (fin:=Xa Xb) (bad:=Xa Xc) (at2 Zbj l m) c 0 (by omega)
   (fun k i _ b=>by
    have a:i < m.length:=by omega
    refine (Zit ..).trans ?_;rw [Xk,P4 (Z4 b)];refine (JZ b _).trans ?_;refine (JZ a _).trans ?_;rw [ZS b c,Zbc _ b a];generalize Zj4 k (l.map Jq) (m.map Jq) ((i+1:Nat):Int)=X
    try simp only [JZ b,JZ a,ZrE,d2,d4,d8,P2,d6,df,dg,dh,di,dj,dk,dl,s68 _ _ (d _ (Xq b)) (e _ (Xq a)),Xd]
    skip
    repeat' split
    all_goals (simp only [ZtJ,CQ] at * <;> grind))
   (fun k i b=>by refine (Zit ..).trans ?_;rw [Xk,P3 (Z3 b)])
  rw [Uc] at this;refine XR this ?_
  cases (XW 0 l.length).all (at2 Zbj l m)<;>rfl
 ·rw [P4 (show (P0 .neq (l.length:Int) (m.length:Int))=Xb by simp only [CQ];omega),decide_eq_false h];rfl
def Zel:Zaq→Zaq→Bool:=fun a b=>decide (a.region=b.region∧a.op.core=b.op.core∧a.op.op=b.op.op∧a.op.part=b.op.part)
def ZLj (l m:List Zaq) (e:l.length < 2^63):ZFE (l.map Zz) (m.map Zz)=Xa (Yz Zel l m):=by
 rw [Zxs,Xk,Xk];unfold Yz;by_cases h:l.length=m.length
 ·rw [P3 (show ¬ (P0 .neq (l.length:Int) (m.length:Int))=Xb by simp only [CQ];omega),decide_eq_true h,XP]
  have:=Jj (F:=fun k i=>ZhT k (l.map Zz) (m.map Zz) i) (n:=l.length) (fin:=Xa Xb) (bad:=Xa Xc) (at2 Zel l m) e 0 (by omega)
   (fun k i _ c=>by
    have d:i < m.length:=by omega
    refine (ZiO ..).trans ?_;rw [Xk,P4 (Z4 c)];refine (JN c _).trans ?_;refine (JN d _).trans ?_;rw [ZS c e,Zbc _ c d];generalize ZhT k (l.map Zz) (m.map Zz) ((i+1:Nat):Int)=X
    try simp only [JN c,JN d,d2,d4,d8,P2,d6,df,dg,dh,di,dj,dk,dl,Xd]
    generalize l[i]=a;generalize m[i]=b;unfold Zel
    repeat' split
    all_goals (simp only [ZtJ,CQ] at * <;> grind))
   (fun k i c=>by refine (ZiO ..).trans ?_;rw [Xk,P3 (Z3 c)])
  rw [Uc] at this;refine XR this ?_
  cases (XW 0 l.length).all (at2 Zel l m)<;>rfl
 ·rw [P4 (show (P0 .neq (l.length:Int) (m.length:Int))=Xb by simp only [CQ];omega),decide_eq_false h];rfl
def ZkB:Ans→Ans→Bool:=fun a b=>decide (a.op=b.op∧a.err=b.err)
def ZJE (l m:List Ans) (e:l.length < 2^63):ZF9 (l.map JB) (m.map JB)=Xa (Yz ZkB l m):=by
 rw [ZvE,Xk,Xk];unfold Yz;by_cases h:l.length=m.length
 ·rw [P3 (show ¬ (P0 .neq (l.length:Int) (m.length:Int))=Xb by simp only [CQ];omega),decide_eq_true h,XP]
  have:=Jj (F:=fun k i=>Zj3 k (l.map JB) (m.map JB) i) (n:=l.length) (fin:=Xa Xb) (bad:=Xa Xc) (at2 ZkB l m) e 0 (by omega)
   (fun k i _ c=>by
    have d:i < m.length:=by omega
    refine (ZjV ..).trans ?_;rw [Xk,P4 (Z4 c)];refine (J7 c _).trans ?_;refine (J7 d _).trans ?_;rw [ZS c e,Zbc _ c d];generalize Zj3 k (l.map JB) (m.map JB) ((i+1:Nat):Int)=X
    try simp only [J7 c,J7 d,d2,d4,d8,P2,d6,df,dg,dh,di,dj,dk,dl,Xd]
    generalize l[i]=a;generalize m[i]=b;unfold ZkB
    repeat' split
    all_goals (simp only [ZtJ,CQ] at * <;> grind))
   (fun k i c=>by refine (ZjV ..).trans ?_;rw [Xk,P3 (Z3 c)])
  rw [Uc] at this;refine XR this ?_
  cases (XW 0 l.length).all (at2 ZkB l m)<;>rfl
 ·rw [P4 (show (P0 .neq (l.length:Int) (m.length:Int))=Xb by simp only [CQ];omega),decide_eq_false h];rfl
def Zlb:ZY→ZY→Bool:=fun a b=>decide (a.core=b.core)&&decide (a.slot=b.slot)&&K0 a.node b.node
def ZK1 (l m:List ZY) (e:l.length < 2^63) (f:∀ x∈l,x.node.path.length < 2^63) (g:∀ x∈m,x.node.path.length < 2^63):ZGA (l.map Zi) (m.map Zi)=Xa (Yz Zlb l m):=by
 rw [Zwi,Xk,Xk];unfold Yz;by_cases h:l.length=m.length
 ·rw [P3 (show ¬ (P0 .neq (l.length:Int) (m.length:Int))=Xb by simp only [CQ];omega),decide_eq_true h,XP]
  have:=Jj (F:=fun k i=>ZjJ k (l.map Zi) (m.map Zi) i) (n:=l.length) (fin:=Xa Xb) (bad:=Xa Xc) (at2 Zlb l m) e 0 (by omega)
   (fun k i _ d=>by
    have c:i < m.length:=by omega
    refine (Zjr ..).trans ?_;rw [Xk,P4 (Z4 d)];refine (Zu d _).trans ?_;refine (Zu c _).trans ?_;rw [ZS d e,Zbc _ d c];generalize ZjJ k (l.map Zi) (m.map Zi) ((i+1:Nat):Int)=X
    try simp only [Zu d,Zu c,Yx,d2,d4,d8,P2,d6,df,dg,dh,di,dj,dk,dl,Zqx _ _ (f _ (Xq d)) (g _ (Xq c)),Xd]
    generalize l[i]=a;generalize m[i]=b;unfold Zlb
    repeat' split
    all_goals (simp only [ZtJ,CQ] at * <;> grind))
   (fun k i d=>by refine (Zjr ..).trans ?_;rw [Xk,P3 (Z3 d)])
  rw [Uc] at this;refine XR this ?_
  cases (XW 0 l.length).all (at2 Zlb l m)<;>rfl
 ·rw [P4 (show (P0 .neq (l.length:Int) (m.length:Int))=Xb by simp only [CQ];omega),decide_eq_false h];rfl
def Zfg (a b:Vu):Bool:=P0 .eql a.number b.number&&(Yz Zbs a.members b.members&&Yz Zbs a.owners b.owners)
def Zay (a b:JD):Bool:=Yz Zkg a.slots b.slots&&(Yz Zbj a.pending b.pending&&(Yz Zel a.marks b.marks&&(Yz ZkB a.answers b.answers&&(Yz Zlb a.entries b.entries&&decide (a.commits=b.commits)))))
def W3 (a b:Js):Bool:=P0 .eql a.core b.core&&(Zfg a.view b.view&&(Zay a.state b.state&&((a.ready == b.ready)&&(Zfg a.next b.next&&Zay a.proposal b.proposal))))
def s73 (a b:Vu) (h:a.Fits):g73 a.number (Zd a.members) (Zd a.owners) b.number (Zd b.members) (Zd b.owners)=Xa (Zfg a b):=by
 rw [ZAf,s71 _ _ h.members,s71 _ _ h.owners];exact JU _ (JU _ rfl)
def s74 (a b:JD) (h:a.Fits) (c:b.Fits):g74 (a.slots.map Zv) (a.pending.map Jq) (a.marks.map Zz) (a.answers.map JB) (a.entries.map Zi) (Ze a.commits) (b.slots.map Zv) (b.pending.map Jq) (b.marks.map Zz) (b.answers.map JB) (b.entries.map Zi) (Ze b.commits)=Xa (Zay a b):=by
 rw [ZBU,ZJw _ _ h.slots h.slot c.slot,ZJF _ _ h.pending h.req c.req,ZLj _ _ h.marks,ZJE _ _ h.answers,ZK1 _ _ h.entries h.entry c.entry,s69 _ _ h.commits c.commits];exact JU _ (JU _ (JU _ (JU _ (JU _ rfl))))
def s75 (a b:Js) (h:a.Fits) (c:b.Fits):g75 a.core a.view.number (Zd a.view.members) (Zd a.view.owners) (a.state.slots.map Zv) (a.state.pending.map Jq) (a.state.marks.map Zz) (a.state.answers.map JB) (a.state.entries.map Zi) (Ze a.state.commits) a.ready a.next.number (Zd a.next.members) (Zd a.next.owners) (a.proposal.slots.map Zv) (a.proposal.pending.map Jq) (a.proposal.marks.map Zz) (a.proposal.answers.map JB) (a.proposal.entries.map Zi) (Ze a.proposal.commits) b.core b.view.number (Zd b.view.members) (Zd b.view.owners) (b.state.slots.map Zv) (b.state.pending.map Jq) (b.state.marks.map Zz) (b.state.answers.map JB) (b.state.entries.map Zi) (Ze b.state.commits) b.ready b.next.number (Zd b.next.members) (Zd b.next.owners) (b.proposal.slots.map Zv) (b.proposal.pending.map Jq) (b.proposal.marks.map Zz) (b.proposal.answers.map JB) (b.proposal.entries.map Zi) (Ze b.proposal.commits)=Xa (W3 a b):=by
 rw [ZCp,s73 _ _ h.view,s74 _ _ h.state c.state,s73 _ _ h.next,s74 _ _ h.proposal c.proposal];exact JU _ (JU _ (JU _ (JU _ (JU _ rfl))))
def nif (c:Bool) {y:Bool} {x:Option Bool} (h:x=Xa y):(if c=Xb then Xa Xc else x)=Xa (!c&&y):=by cases c<;>simp [h]
def Zov (a b:Msg):Bool:=!P0 .neq a.kind b.kind&&(!P0 .neq a.view b.view&&(!P0 .neq a.frm b.frm&&(!P0 .neq a.to b.to&&(!P0 .neq a.round b.round&&(!P0 .neq a.region b.region&&(!P0 .neq a.slot b.slot&&(!(!((P0 .eql a.op.core b.op.core)&&((P0 .eql a.op.op b.op.op)&&((P0 .eql a.op.part b.op.part)&&Xb))))&&(!P0 .neq a.err b.err&&(!(!(a.settled == b.settled))&&(!P0 .neq a.base b.base&&(Zbj a.req b.req&&(decide (a.ids=b.ids)&&(Yz K0 a.nodes b.nodes&&(Yz Zbs a.cores b.cores&&(Yz ZaC a.moves b.moves&&(Zfg a.next b.next&&(Zay a.state b.state&&W3 a.report b.report)))))))))))))))))
def s19 (a b:Msg) (h:a.Fits) (c:b.Fits):ofM (ofM g19 a) b=Xa (Zov a b):=by
 unfold ofM;rw [Zzi,s68 _ _ h.req c.req,s69 _ _ h.ids c.ids,s70 _ _ h.nodes h.node c.node,s71 _ _ h.cores,s72 _ _ h.moves,s73 _ _ h.next,s74 _ _ h.state c.state,s75 _ _ h.report c.report];exact nif _ (nif _ (nif _ (nif _ (nif _ (nif _ (nif _ (nif _ (nif _ (nif _ (nif _ (JU _ (JU _ (JU _ (JU _ (JU _ (JU _ (JU _ (rfl))))))))))))))))))
def J2 {c:Type} (q:c→c→Bool) (d:∀ a,q a a=Xb) (l:List c):Yz q l l=Xb:=by
 unfold Yz;rw [decide_eq_true rfl,XP,Xo];intro i e;have b:i < l.length:=by simpa [List.mem_range'] using e
 rw [Zbc q b b,d]
def YX {b:Type} (q:b→b→Bool) (l:List b):Yz q l []=decide (l.length=0):=by
 unfold Yz
 cases l with
 | nil => rfl
 | cons a r => simp
def V5 (a:Yc):K0 a a=Xb:=by simp [K0]
def ZcA (a:Req):Zbj a a=Xb:=by simp [Zbj,V5]
def Zox (a:Req):Zbj a Jr=Zrx a:=by
 have:decide (a.id.core=Jr.id.core∧a.id.op=Jr.id.op∧a.id.part=Jr.id.part)=decide (a.id=zid):=by
  rw [Zm,P5,P5];constructor
  ·rintro ⟨b,c,d⟩;rcases h:a.id with ⟨x,y,z⟩;rw [h] at b c d;simp only [Jr,zid] at b c d;subst b c d;rfl
  ·intro h;rw [h];exact ⟨rfl,rfl,rfl⟩
 unfold Zbj Zrx;rw [this];rfl
def Zch (a:Vu):Zfg a a=Xb:=by
 simp [Zfg,J2 Zbs (fun a=>by simp [Zbs]),P0]
def Zci (a:Vu):Zfg a ZW=Zb2 a:=by
 unfold Zfg Zb2;rw [show ZW.members = [] from rfl,show ZW.owners = [] from rfl,YX,YX,Bool.and_assoc];rfl
def ZaO (a:JD):Zay a a=Xb:=by
 simp [Zay,J2 Zkg (fun a=>by simp [Zkg,V5]),J2 Zbj ZcA,J2 Zel (fun a=>by simp [Zel]),J2 ZkB (fun a=>by simp [ZkB]),J2 Zlb (fun a=>by simp [Zlb,V5])]
def Za2 (a:JD):Zay a Zk=VW a:=by
 have:decide (a.commits=([] : List Id))=decide (a.commits.length=0):=by
  rw [Zm,P5,P5,T4]
 unfold Zay VW;rw [show Zk.slots = [] from rfl,show Zk.pending = [] from rfl,show Zk.marks = [] from rfl,show Zk.answers = [] from rfl,show Zk.entries = [] from rfl,show Zk.commits = [] from rfl,YX,YX,YX,YX,YX,this];simp only [Bool.and_assoc]
def ZcG (a:Js):W3 a a=Xb:=by simp [W3,Zch,ZaO,P0]
def ZhI (a:Js):W3 a Zn=VO a:=by
 unfold W3 VO;rw [show Zn.view=ZW from rfl,show Zn.next=ZW from rfl,show Zn.state=Zk from rfl,show Zn.proposal=Zk from rfl,Zci,Zci,Za2,Za2];have e:(a.ready == Zn.ready) = !a.ready:=by cases a.ready<;>rfl
 rw [e];simp only [Bool.and_assoc];rfl
def ZfR (a:Msg):Zov a a=Xb:=by
 simp [Zov,ZcA,J2 K0 V5,J2 Zbs (fun a=>by simp [Zbs]),J2 ZaC (fun a=>by simp [ZaC]),Zch,ZaO,ZcG,P0]
def l16 (m x:Msg) (h:m.Fits) (e:x.Fits):∀ (j i a:Nat) (b:Bool),m.nodes.length=i+j→j < a→
  ofM (ofM (Y5 a) m) x b (i:Int)=Xa (b&&((m.nodes.drop i).all ZD&&(Jo m.region&&Zov m x))):=by
 unfold ofM;intro j
 induction j with
 | zero =>
  intro i a b d g;obtain ⟨f,rfl⟩:∃ f,a=f+1:=⟨a-1,by omega⟩;refine (ZmC ..).trans ?_;rw [Xk,P3 (Z3 (by omega)),Up (by omega)]
  cases b with
  | false => rfl
  | true =>
   rw [P4 rfl,s62,Xd,← ume g19 m,← ume (ofM g19 m) x,s19 m x h e,Xd]
   cases Jo m.region<;>rfl
 | succ j ih =>
  intro i a b d g;obtain ⟨f,rfl⟩:∃ f,a=f+1:=⟨a-1,by omega⟩;have c:i < m.nodes.length:=by omega
  refine (ZmC ..).trans ?_;rw [Xk,P4 (Z4 c)]
  cases b with
  | false => rfl
  | true =>
   rw [P4 rfl];refine (Y8 c _).trans ?_;simp only [Ziv,d2,d4,d8,P2,d6,df,dg,dh,di,dj,dk,dl];rw [s61 _ (h.node _ (Xq c)),Xd,ZS c h.nodes,ih (i+1) f _ (by omega) (by omega),UF c,XU]
   cases ZD m.nodes[i]<;>rfl
def kne {a b:Int} (h:a≠b):¬ (P0 .eql a b=Xb):=by simp only [CQ];exact h
def kn (m:Msg) {α:Type} {a b:α} (k:Int) (h:m.kind≠k):(if P0 .eql m.kind k=Xb then a else b)=b:=P3 (kne h)
def keq {a b:Int} (h:a=b):P0 .eql a b=Xb:=by simp only [CQ];exact h
@[reducible] def G10 (m:Msg):=ofM g16 m
@[reducible] def G10L (m:Msg):=ofM (Y5 Zr) m
def sel (b:Nat→Bool) (m:Msg):Msg:=⟨m.kind,m.view,m.frm,m.to,if b 8=Xb then m.round else 0,if b 0=Xb then m.region else 0,if b 6=Xb then m.slot else 0,if b 2=Xb then m.op else zid,if b 3=Xb then m.err else 0,if b 4=Xb then m.settled else Xc,if b 1=Xb then m.req else Jr,if b 7=Xb then m.ids else [],if b 5=Xb then m.nodes else [],if b 9=Xb then m.cores else [],if b 14=Xb then m.moves else [],if b 11=Xb then m.base else 0,if b 12=Xb then m.next else ZW,if b 13=Xb then m.state else Zk,if b 10=Xb then m.report else Zn⟩
def J3 (b:Nat→Bool) {m:Msg} (h:m.Fits):(sel b m).Fits:=by
 refine ⟨?_,?_,?_,?_,?_,?_,?_,?_,?_⟩
 ·show (if b 1=Xb then m.req else Jr).src.path.length < 2^63
  cases b 1<;>first | exact h.req | (show ([] : List Id).length < 2^63;simp)
 ·show (if b 7=Xb then m.ids else []).length < 2^63
  cases b 7<;>first | exact h.ids | (show ([] : List Id).length < 2^63;simp)
 ·show (if b 5=Xb then m.nodes else []).length < 2^63
  cases b 5<;>first | exact h.nodes | (show ([] : List Yc).length < 2^63;simp)
 ·show ∀ x∈(if b 5=Xb then m.nodes else []),x.path.length < 2^63
  cases b 5<;>first | exact h.node | (intro x a;cases a)
 ·show (if b 9=Xb then m.cores else []).length < 2^63
  cases b 9<;>first | exact h.cores | (show ([] : List Int).length < 2^63;simp)
 ·show (if b 14=Xb then m.moves else []).length < 2^63
  cases b 14<;>first | exact h.moves | (show ([] : List ZeF).length < 2^63;simp)
 ·show (if b 12=Xb then m.next else ZW).Fits
  cases b 12<;>first | exact h.next | exact ⟨by simp [ZW],by simp [ZW]⟩
 ·show (if b 13=Xb then m.state else Zk).Fits
  cases b 13<;>first | exact h.state | exact ⟨by simp [Zk],by simp [Zk],by simp [Zk],by simp [Zk],by simp [Zk],by simp [Zk],by simp [Zk],by simp [Zk],by simp [Zk]⟩
 ·show (if b 10=Xb then m.report else Zn).Fits
  cases b 10<;>first | exact h.report | exact ⟨⟨by simp [Zn,ZW],by simp [Zn,ZW]⟩,⟨by simp [Zn,Zk],by simp [Zn,Zk],by simp [Zn,Zk],by simp [Zn,Zk],by simp [Zn,Zk],by simp [Zn,Zk],by simp [Zn,Zk],by simp [Zn,Zk],by simp [Zn,Zk]⟩,⟨by simp [Zn,ZW],by simp [Zn,ZW]⟩,⟨by simp [Zn,Zk],by simp [Zn,Zk],by simp [Zn,Zk],by simp [Zn,Zk],by simp [Zn,Zk],by simp [Zn,Zk],by simp [Zn,Zk],by simp [Zn,Zk],by simp [Zn,Zk]⟩⟩
def Yb (b:Nat→Bool) (m:Msg):Zov m (sel b m)=(Ue 15).all (fun g=>b g||zf m g):=by
 have i:(!P0 .neq m.kind (sel b m).kind)=Xb:=by simp [sel,P0]
 have j:(!P0 .neq m.view (sel b m).view)=Xb:=by simp [sel,P0]
 have k:(!P0 .neq m.frm (sel b m).frm)=Xb:=by simp [sel,P0]
 have l:(!P0 .neq m.to (sel b m).to)=Xb:=by simp [sel,P0]
 have n:(!P0 .neq m.round (sel b m).round)=(b 8||zf m 8):=by
  show (!P0 .neq m.round (if b 8=Xb then m.round else 0))=(b 8||decide (m.round=0))
  cases b 8 with
  | true => simp [P0]
  | false => rw [Zm]; simp [P0]
 have o:(!P0 .neq m.region (sel b m).region)=(b 0||zf m 0):=by
  show (!P0 .neq m.region (if b 0=Xb then m.region else 0))=(b 0||decide (m.region=0))
  cases b 0 with
  | true => simp [P0]
  | false => rw [Zm]; simp [P0]
 have p:(!P0 .neq m.slot (sel b m).slot)=(b 6||zf m 6):=by
  show (!P0 .neq m.slot (if b 6=Xb then m.slot else 0))=(b 6||decide (m.slot=0))
  cases b 6 with
  | true => simp [P0]
  | false => rw [Zm]; simp [P0]
 have q:(!P0 .neq m.err (sel b m).err)=(b 3||zf m 3):=by
  show (!P0 .neq m.err (if b 3=Xb then m.err else 0))=(b 3||decide (m.err=0))
  cases b 3 with
  | true => simp [P0]
  | false => rw [Zm]; simp [P0]
 have c:(!P0 .neq m.base (sel b m).base)=(b 11||zf m 11):=by
  show (!P0 .neq m.base (if b 11=Xb then m.base else 0))=(b 11||decide (m.base=0))
  cases b 11 with
  | true => simp [P0]
  | false => rw [Zm]; simp [P0]
 have r:(!(!((P0 .eql m.op.core (sel b m).op.core)&&((P0 .eql m.op.op (sel b m).op.op)&&((P0 .eql m.op.part (sel b m).op.part)&&Xb)))))=(b 2||zf m 2):=by
  rw [Bool.not_not];show ((P0 .eql m.op.core (if b 2=Xb then m.op else zid).core)&&((P0 .eql m.op.op (if b 2=Xb then m.op else zid).op)&&((P0 .eql m.op.part (if b 2=Xb then m.op else zid).part)&&Xb)))=(b 2||decide (m.op=zid))
  cases b 2 with
  | true => simp [P0]
  | false => rw [Zm, Bool.false_or, P5]; exact Kx _ _ _
 have s:(!(!(m.settled == (sel b m).settled)))=(b 4||zf m 4):=by
  show (!(!(m.settled == (if b 4=Xb then m.settled else Xc))))=(b 4||!m.settled)
  cases b 4<;>cases m.settled<;>rfl
 have t:Zbj m.req (sel b m).req=(b 1||zf m 1):=by
  show Zbj m.req (if b 1=Xb then m.req else Jr)=(b 1||Zrx m.req)
  cases b 1 with
  | true => exact ZcA _
  | false => exact Zox _
 have e7:decide (m.ids=(sel b m).ids)=(b 7||zf m 7):=by
  show decide (m.ids=(if b 7=Xb then m.ids else []))=(b 7||decide (m.ids.length=0))
  cases b 7<;>simp
 have u:Yz K0 m.nodes (sel b m).nodes=(b 5||zf m 5):=by
  show Yz K0 m.nodes (if b 5=Xb then m.nodes else [])=(b 5||decide (m.nodes.length=0))
  cases b 5 with
  | true => exact J2 _ V5 _
  | false => exact YX _ _
 have e9:Yz Zbs m.cores (sel b m).cores=(b 9||zf m 9):=by
  show Yz Zbs m.cores (if b 9=Xb then m.cores else [])=(b 9||decide (m.cores.length=0))
  cases b 9 with
  | true => exact J2 _ (fun a => by simp [Zbs]) _
  | false => exact YX _ _
 have d:Yz ZaC m.moves (sel b m).moves=(b 14||zf m 14):=by
  show Yz ZaC m.moves (if b 14=Xb then m.moves else [])=(b 14||decide (m.moves.length=0))
  cases b 14 with
  | true => exact J2 _ (fun a => by simp [ZaC]) _
  | false => exact YX _ _
 have e:Zfg m.next (sel b m).next=(b 12||zf m 12):=by
  show Zfg m.next (if b 12=Xb then m.next else ZW)=(b 12||Zb2 m.next)
  cases b 12 with
  | true => exact Zch _
  | false => exact Zci _
 have f:Zay m.state (sel b m).state=(b 13||zf m 13):=by
  show Zay m.state (if b 13=Xb then m.state else Zk)=(b 13||VW m.state)
  cases b 13 with
  | true => exact ZaO _
  | false => exact Za2 _
 have h:W3 m.report (sel b m).report=(b 10||zf m 10):=by
  show W3 m.report (if b 10=Xb then m.report else Zn)=(b 10||VO m.report)
  cases b 10 with
  | true => exact ZcG _
  | false => exact ZhI _
 unfold Zov;rw [i,j,k,l,n,o,p,r,q,s,c,t,e7,u,e9,d,e,f,h];show _=((b 0||zf m 0)&&((b 1||zf m 1)&&((b 2||zf m 2)&&((b 3||zf m 3)&&((b 4||zf m 4)&&((b 5||zf m 5)&&((b 6||zf m 6)&&((b 7||zf m 7)&&((b 8||zf m 8)&&((b 9||zf m 9)&&((b 10||zf m 10)&&((b 11||zf m 11)&&((b 12||zf m 12)&&((b 13||zf m 13)&&((b 14||zf m 14)&&Xb)))))))))))))));simp only [XP,X6];ac_rfl
def Zw8:Zkz Xc=Vx:=by funext i;simp [Zkz]
def J0 {n:Nat} {m:Msg} (h:rest n m=Xb) (g:Nat) (a:g < 15) (b:(kf n).contains g=Xc):zf m g=Xb:=by
 have this:((kf n).contains g||zf m g)=Xb:=(Xo.1 h) g (UC.2 a)
 rwa [b,Bool.false_or] at this
def JI {m:Msg} (h:zf m 5=Xb):m.nodes.all ZD=Xb:=by
 have a:m.nodes.length=0:=of_decide_eq_true h;rw [T4.1 a];rfl
def Zac {m:Msg} (h:zf m 0=Xb):Jo m.region=Xb:=by
 have a:m.region=0:=of_decide_eq_true h;rw [a];rfl
def ZHV (m:Msg) (h:m.Fits) (b:m.kind=1) (c:JR m.view=Xb) (d:Zw m.frm=Xb) (e:Zw m.to=Xb):G10 m=Xa ((kf 1).all (Zh m)&&rest 1 m):=by
 have L:∀ a,G10L m m.kind m.view m.frm m.to 0 m.region 0 0 0 0 0 Xc m.req.id.core m.req.id.op m.req.id.part m.req.call.kind m.req.call.slot m.req.call.dest m.req.call.core m.req.call.mask m.req.call.object m.req.call.bits m.req.call.level m.req.call.offset m.req.call.count m.req.call.index m.req.call.addr m.req.region m.req.width m.req.src.id.core m.req.src.id.op m.req.src.id.part (Ze m.req.src.path) m.req.src.cap.kind m.req.src.cap.base m.req.src.cap.bits m.req.src.cap.rights m.req.src.cap.width m.req.src.cap.level m.req.src.cap.device E0 E0 E0 E0 0 0 E0 E0 E0 E0 E0 E0 E0 E0 0 0 E0 E0 E0 E0 E0 E0 E0 E0 Xc 0 E0 E0 E0 E0 E0 E0 E0 E0 a 0=Xa (a&&(m.nodes.all ZD&&(Jo m.region&&rest 1 m))):=fun a=>by
  have q:=l16 m (sel (fun g=>(kf 1).contains g) m) h (J3 _ h) m.nodes.length 0 Zr a (by omega) (by have:=Yi h.nodes;omega);rw [X7,Yb] at q;exact q
 unfold G10 ofM;rw [YR,P3 (show ¬ (P0 .lss m.kind 1)=Xb by simp only [CQ];omega),P3 (show ¬ (P0 .gtr m.kind 17)=Xb by simp only [CQ];omega),s50,Xd,c,s51,Xd,d,s51,Xd,e];rw [P3 (show ¬ (!true)=Xb by decide),P3 (show ¬ (!true)=Xb by decide),P3 (show ¬ (!true)=Xb by decide)];rw [P4 (keq b)];simp only [L,s52 _ h.req,Xd]
 cases hr:rest 1 m with
 | false =>
  simp only [Ur]
  repeat' split
  all_goals rfl
 | true =>
  have f:=JI (J0 hr 5 (by omega) rfl);show _=Xa ((Zh m 0&&(Zh m 1&&Xb))&&Xb)
  repeat' split
  all_goals (refine congrArg Xa ?_;rw [Zm];simp only [Zh,JO,CQ] at * <;> grind)
def ZHA (m:Msg) (h:m.Fits) (b:m.kind=2) (c:JR m.view=Xb) (d:Zw m.frm=Xb) (e:Zw m.to=Xb):G10 m=Xa ((kf 2).all (Zh m)&&rest 2 m):=by
 have L:∀ a,G10L m m.kind m.view m.frm m.to 0 m.region 0 m.op.core m.op.op m.op.part m.err m.settled 0 0 0 0 0 0 0 0 0 0 0 0 0 0 0 0 0 0 0 0 E0 0 0 0 0 0 0 Xc E0 (m.nodes.map YM) E0 E0 0 0 E0 E0 E0 E0 E0 E0 E0 E0 0 0 E0 E0 E0 E0 E0 E0 E0 E0 Xc 0 E0 E0 E0 E0 E0 E0 E0 E0 a 0=Xa (a&&(m.nodes.all ZD&&(Jo m.region&&rest 2 m))):=fun a=>by
  have q:=l16 m (sel (fun g=>(kf 2).contains g) m) h (J3 _ h) m.nodes.length 0 Zr a (by omega) (by have:=Yi h.nodes;omega);rw [X7,Yb] at q;exact q
 unfold G10 ofM;rw [YR,P3 (show ¬ (P0 .lss m.kind 1)=Xb by simp only [CQ];omega),P3 (show ¬ (P0 .gtr m.kind 17)=Xb by simp only [CQ];omega),s50,Xd,c,s51,Xd,d,s51,Xd,e];rw [P3 (show ¬ (!true)=Xb by decide),P3 (show ¬ (!true)=Xb by decide),P3 (show ¬ (!true)=Xb by decide)];rw [kn m 1 (by omega)];rw [P4 (keq b)];simp only [L,s53,s54,Xk,Xd]
 cases hr:rest 2 m with
 | false =>
  simp only [Ur]
  repeat' split
  all_goals rfl
 | true =>
  show _=Xa ((Zh m 0&&(Zh m 2&&(Zh m 3&&(Zh m 4&&(Zh m 5&&Xb)))))&&Xb)
  repeat' split
  all_goals (refine congrArg Xa ?_;rw [Zm];simp only [Zh,JO,CQ] at * <;> grind)
def ZG7 (m:Msg) (h:m.Fits) (e:m.kind=3) (b:JR m.view=Xb) (c:Zw m.frm=Xb) (d:Zw m.to=Xb):G10 m=Xa ((kf 3).all (Zh m)&&rest 3 m):=by
 have L:∀ a,G10L m m.kind m.view m.frm m.to 0 m.region 0 m.op.core m.op.op m.op.part 0 Xc 0 0 0 0 0 0 0 0 0 0 0 0 0 0 0 0 0 0 0 0 E0 0 0 0 0 0 0 Xc E0 E0 E0 E0 0 0 E0 E0 E0 E0 E0 E0 E0 E0 0 0 E0 E0 E0 E0 E0 E0 E0 E0 Xc 0 E0 E0 E0 E0 E0 E0 E0 E0 a 0=Xa (a&&(m.nodes.all ZD&&(Jo m.region&&rest 3 m))):=fun a=>by
  have q:=l16 m (sel (fun g=>(kf 3).contains g) m) h (J3 _ h) m.nodes.length 0 Zr a (by omega) (by have:=Yi h.nodes;omega);rw [X7,Yb] at q;exact q
 unfold G10 ofM;rw [YR,P3 (show ¬ (P0 .lss m.kind 1)=Xb by simp only [CQ];omega),P3 (show ¬ (P0 .gtr m.kind 17)=Xb by simp only [CQ];omega),s50,Xd,b,s51,Xd,c,s51,Xd,d];rw [P3 (show ¬ (!true)=Xb by decide),P3 (show ¬ (!true)=Xb by decide),P3 (show ¬ (!true)=Xb by decide)];rw [kn m 1 (by omega),kn m 2 (by omega),kn m 4 (by omega),kn m 5 (by omega),kn m 6 (by omega),kn m 12 (by omega),kn m 13 (by omega),kn m 14 (by omega),kn m 15 (by omega),kn m 16 (by omega),kn m 17 (by omega)];simp only [L,s53,Xd]
 cases hr:rest 3 m with
 | false =>
  simp only [Ur]
  repeat' split
  all_goals rfl
 | true =>
  have f:=JI (J0 hr 5 (by omega) rfl);show _=Xa ((Zh m 0&&(Zh m 2&&Xb))&&Xb)
  repeat' split
  all_goals (refine congrArg Xa ?_;rw [Zm];simp only [Zh,JO,CQ] at * <;> grind)
def ZE9 (m:Msg) (h:m.Fits) (b:m.kind=4) (c:JR m.view=Xb) (d:Zw m.frm=Xb) (e:Zw m.to=Xb):G10 m=Xa ((kf 4).all (Zh m)&&rest 4 m):=by
 have L:∀ a,G10L m m.kind m.view m.frm m.to 0 m.region m.slot m.op.core m.op.op m.op.part 0 Xc 0 0 0 0 0 0 0 0 0 0 0 0 0 0 0 0 0 0 0 0 E0 0 0 0 0 0 0 Xc E0 (m.nodes.map YM) E0 E0 0 0 E0 E0 E0 E0 E0 E0 E0 E0 0 0 E0 E0 E0 E0 E0 E0 E0 E0 Xc 0 E0 E0 E0 E0 E0 E0 E0 E0 a 0=Xa (a&&(m.nodes.all ZD&&(Jo m.region&&rest 4 m))):=fun a=>by
  have q:=l16 m (sel (fun g=>(kf 4).contains g) m) h (J3 _ h) m.nodes.length 0 Zr a (by omega) (by have:=Yi h.nodes;omega);rw [X7,Yb] at q;exact q
 unfold G10 ofM;rw [YR,P3 (show ¬ (P0 .lss m.kind 1)=Xb by simp only [CQ];omega),P3 (show ¬ (P0 .gtr m.kind 17)=Xb by simp only [CQ];omega),s50,Xd,c,s51,Xd,d,s51,Xd,e];rw [P3 (show ¬ (!true)=Xb by decide),P3 (show ¬ (!true)=Xb by decide),P3 (show ¬ (!true)=Xb by decide)];rw [kn m 1 (by omega),kn m 2 (by omega)];rw [P4 (keq b)];simp only [L,s53,Xk,Xd]
 cases hr:rest 4 m with
 | false =>
  simp only [Ur]
  repeat' split
  all_goals rfl
 | true =>
  show _=Xa ((Zh m 0&&(Zh m 2&&(Zh m 6&&(Zh m 5&&Xb))))&&Xb)
  repeat' split
  all_goals (refine congrArg Xa ?_;rw [Zm];simp only [Zh,JO,CQ] at * <;> grind)
def ZFF (m:Msg) (h:m.Fits) (b:m.kind=5) (c:JR m.view=Xb) (d:Zw m.frm=Xb) (e:Zw m.to=Xb):G10 m=Xa ((kf 5).all (Zh m)&&rest 5 m):=by
 have L:∀ a,G10L m m.kind m.view m.frm m.to 0 m.region 0 m.op.core m.op.op m.op.part m.err Xc 0 0 0 0 0 0 0 0 0 0 0 0 0 0 0 0 0 0 0 0 E0 0 0 0 0 0 0 Xc E0 E0 E0 E0 0 0 E0 E0 E0 E0 E0 E0 E0 E0 0 0 E0 E0 E0 E0 E0 E0 E0 E0 Xc 0 E0 E0 E0 E0 E0 E0 E0 E0 a 0=Xa (a&&(m.nodes.all ZD&&(Jo m.region&&rest 5 m))):=fun a=>by
  have q:=l16 m (sel (fun g=>(kf 5).contains g) m) h (J3 _ h) m.nodes.length 0 Zr a (by omega) (by have:=Yi h.nodes;omega);rw [X7,Yb] at q;exact q
 unfold G10 ofM;rw [YR,P3 (show ¬ (P0 .lss m.kind 1)=Xb by simp only [CQ];omega),P3 (show ¬ (P0 .gtr m.kind 17)=Xb by simp only [CQ];omega),s50,Xd,c,s51,Xd,d,s51,Xd,e];rw [P3 (show ¬ (!true)=Xb by decide),P3 (show ¬ (!true)=Xb by decide),P3 (show ¬ (!true)=Xb by decide)];rw [kn m 1 (by omega),kn m 2 (by omega),kn m 4 (by omega)];rw [P4 (keq b)];simp only [L,s53,s54,Xd]
 cases hr:rest 5 m with
 | false =>
  simp only [Ur]
  repeat' split
  all_goals rfl
 | true =>
  have f:=JI (J0 hr 5 (by omega) rfl);show _=Xa ((Zh m 0&&(Zh m 2&&(Zh m 3&&Xb)))&&Xb)
  repeat' split
  all_goals (refine congrArg Xa ?_;rw [Zm];simp only [Zh,JO,CQ] at * <;> grind)
def ZFt (m:Msg) (h:m.Fits) (b:m.kind=6) (c:JR m.view=Xb) (d:Zw m.frm=Xb) (e:Zw m.to=Xb):G10 m=Xa ((kf 6).all (Zh m)&&rest 6 m):=by
 have L:∀ a,G10L m m.kind m.view m.frm m.to 0 m.region 0 m.op.core m.op.op m.op.part 0 Xc 0 0 0 0 0 0 0 0 0 0 0 0 0 0 0 0 0 0 0 0 E0 0 0 0 0 0 0 Xc (Ze m.ids) E0 E0 E0 0 0 E0 E0 E0 E0 E0 E0 E0 E0 0 0 E0 E0 E0 E0 E0 E0 E0 E0 Xc 0 E0 E0 E0 E0 E0 E0 E0 E0 a 0=Xa (a&&(m.nodes.all ZD&&(Jo m.region&&rest 6 m))):=fun a=>by
  have q:=l16 m (sel (fun g=>(kf 6).contains g) m) h (J3 _ h) m.nodes.length 0 Zr a (by omega) (by have:=Yi h.nodes;omega);rw [X7,Yb] at q;exact q
 unfold G10 ofM;rw [YR,P3 (show ¬ (P0 .lss m.kind 1)=Xb by simp only [CQ];omega),P3 (show ¬ (P0 .gtr m.kind 17)=Xb by simp only [CQ];omega),s50,Xd,c,s51,Xd,d,s51,Xd,e];rw [P3 (show ¬ (!true)=Xb by decide),P3 (show ¬ (!true)=Xb by decide),P3 (show ¬ (!true)=Xb by decide)];rw [kn m 1 (by omega),kn m 2 (by omega),kn m 4 (by omega),kn m 5 (by omega)];rw [P4 (keq b)];simp only [L,s53,s55 _ _ h.ids,ZX,Zw8,Xd]
 cases hr:rest 6 m with
 | false =>
  simp only [Ur]
  repeat' split
  all_goals rfl
 | true =>
  have f:=JI (J0 hr 5 (by omega) rfl);show _=Xa ((Zh m 0&&(Zh m 2&&(Zh m 7&&Xb)))&&Xb)
  repeat' split
  all_goals (refine congrArg Xa ?_;rw [Zm];simp only [Zh,JO,CQ] at * <;> grind)
def ZFZ (m:Msg) (h:m.Fits) (e:m.kind=7) (b:JR m.view=Xb) (c:Zw m.frm=Xb) (d:Zw m.to=Xb):G10 m=Xa ((kf 7).all (Zh m)&&rest 7 m):=by
 have L:∀ a,G10L m m.kind m.view m.frm m.to 0 m.region 0 m.op.core m.op.op m.op.part 0 Xc 0 0 0 0 0 0 0 0 0 0 0 0 0 0 0 0 0 0 0 0 E0 0 0 0 0 0 0 Xc E0 E0 E0 E0 0 0 E0 E0 E0 E0 E0 E0 E0 E0 0 0 E0 E0 E0 E0 E0 E0 E0 E0 Xc 0 E0 E0 E0 E0 E0 E0 E0 E0 a 0=Xa (a&&(m.nodes.all ZD&&(Jo m.region&&rest 7 m))):=fun a=>by
  have q:=l16 m (sel (fun g=>(kf 7).contains g) m) h (J3 _ h) m.nodes.length 0 Zr a (by omega) (by have:=Yi h.nodes;omega);rw [X7,Yb] at q;exact q
 unfold G10 ofM;rw [YR,P3 (show ¬ (P0 .lss m.kind 1)=Xb by simp only [CQ];omega),P3 (show ¬ (P0 .gtr m.kind 17)=Xb by simp only [CQ];omega),s50,Xd,b,s51,Xd,c,s51,Xd,d];rw [P3 (show ¬ (!true)=Xb by decide),P3 (show ¬ (!true)=Xb by decide),P3 (show ¬ (!true)=Xb by decide)];rw [kn m 1 (by omega),kn m 2 (by omega),kn m 4 (by omega),kn m 5 (by omega),kn m 6 (by omega),kn m 12 (by omega),kn m 13 (by omega),kn m 14 (by omega),kn m 15 (by omega),kn m 16 (by omega),kn m 17 (by omega)];simp only [L,s53,Xd]
 cases hr:rest 7 m with
 | false =>
  simp only [Ur]
  repeat' split
  all_goals rfl
 | true =>
  have f:=JI (J0 hr 5 (by omega) rfl);show _=Xa ((Zh m 0&&(Zh m 2&&Xb))&&Xb)
  repeat' split
  all_goals (refine congrArg Xa ?_;rw [Zm];simp only [Zh,JO,CQ] at * <;> grind)
def ZEK (m:Msg) (h:m.Fits) (e:m.kind=8) (b:JR m.view=Xb) (c:Zw m.frm=Xb) (d:Zw m.to=Xb):G10 m=Xa ((kf 8).all (Zh m)&&rest 8 m):=by
 have L:∀ a,G10L m m.kind m.view m.frm m.to 0 m.region 0 m.op.core m.op.op m.op.part 0 Xc 0 0 0 0 0 0 0 0 0 0 0 0 0 0 0 0 0 0 0 0 E0 0 0 0 0 0 0 Xc E0 E0 E0 E0 0 0 E0 E0 E0 E0 E0 E0 E0 E0 0 0 E0 E0 E0 E0 E0 E0 E0 E0 Xc 0 E0 E0 E0 E0 E0 E0 E0 E0 a 0=Xa (a&&(m.nodes.all ZD&&(Jo m.region&&rest 8 m))):=fun a=>by
  have q:=l16 m (sel (fun g=>(kf 8).contains g) m) h (J3 _ h) m.nodes.length 0 Zr a (by omega) (by have:=Yi h.nodes;omega);rw [X7,Yb] at q;exact q
 unfold G10 ofM;rw [YR,P3 (show ¬ (P0 .lss m.kind 1)=Xb by simp only [CQ];omega),P3 (show ¬ (P0 .gtr m.kind 17)=Xb by simp only [CQ];omega),s50,Xd,b,s51,Xd,c,s51,Xd,d];rw [P3 (show ¬ (!true)=Xb by decide),P3 (show ¬ (!true)=Xb by decide),P3 (show ¬ (!true)=Xb by decide)];rw [kn m 1 (by omega),kn m 2 (by omega),kn m 4 (by omega),kn m 5 (by omega),kn m 6 (by omega),kn m 12 (by omega),kn m 13 (by omega),kn m 14 (by omega),kn m 15 (by omega),kn m 16 (by omega),kn m 17 (by omega)];simp only [L,s53,Xd]
 cases hr:rest 8 m with
 | false =>
  simp only [Ur]
  repeat' split
  all_goals rfl
 | true =>
  have f:=JI (J0 hr 5 (by omega) rfl);show _=Xa ((Zh m 0&&(Zh m 2&&Xb))&&Xb)
  repeat' split
  all_goals (refine congrArg Xa ?_;rw [Zm];simp only [Zh,JO,CQ] at * <;> grind)
def ZE7 (m:Msg) (h:m.Fits) (e:m.kind=9) (b:JR m.view=Xb) (c:Zw m.frm=Xb) (d:Zw m.to=Xb):G10 m=Xa ((kf 9).all (Zh m)&&rest 9 m):=by
 have L:∀ a,G10L m m.kind m.view m.frm m.to 0 m.region 0 m.op.core m.op.op m.op.part 0 Xc 0 0 0 0 0 0 0 0 0 0 0 0 0 0 0 0 0 0 0 0 E0 0 0 0 0 0 0 Xc E0 E0 E0 E0 0 0 E0 E0 E0 E0 E0 E0 E0 E0 0 0 E0 E0 E0 E0 E0 E0 E0 E0 Xc 0 E0 E0 E0 E0 E0 E0 E0 E0 a 0=Xa (a&&(m.nodes.all ZD&&(Jo m.region&&rest 9 m))):=fun a=>by
  have q:=l16 m (sel (fun g=>(kf 9).contains g) m) h (J3 _ h) m.nodes.length 0 Zr a (by omega) (by have:=Yi h.nodes;omega);rw [X7,Yb] at q;exact q
 unfold G10 ofM;rw [YR,P3 (show ¬ (P0 .lss m.kind 1)=Xb by simp only [CQ];omega),P3 (show ¬ (P0 .gtr m.kind 17)=Xb by simp only [CQ];omega),s50,Xd,b,s51,Xd,c,s51,Xd,d];rw [P3 (show ¬ (!true)=Xb by decide),P3 (show ¬ (!true)=Xb by decide),P3 (show ¬ (!true)=Xb by decide)];rw [kn m 1 (by omega),kn m 2 (by omega),kn m 4 (by omega),kn m 5 (by omega),kn m 6 (by omega),kn m 12 (by omega),kn m 13 (by omega),kn m 14 (by omega),kn m 15 (by omega),kn m 16 (by omega),kn m 17 (by omega)];simp only [L,s53,Xd]
 cases hr:rest 9 m with
 | false =>
  simp only [Ur]
  repeat' split
  all_goals rfl
 | true =>
  have f:=JI (J0 hr 5 (by omega) rfl);show _=Xa ((Zh m 0&&(Zh m 2&&Xb))&&Xb)
  repeat' split
  all_goals (refine congrArg Xa ?_;rw [Zm];simp only [Zh,JO,CQ] at * <;> grind)
def ZyZ (m:Msg) (h:m.Fits) (e:m.kind=10) (b:JR m.view=Xb) (c:Zw m.frm=Xb) (d:Zw m.to=Xb):G10 m=Xa ((kf 10).all (Zh m)&&rest 10 m):=by
 have L:∀ a,G10L m m.kind m.view m.frm m.to 0 m.region 0 m.op.core m.op.op m.op.part 0 Xc 0 0 0 0 0 0 0 0 0 0 0 0 0 0 0 0 0 0 0 0 E0 0 0 0 0 0 0 Xc E0 E0 E0 E0 0 0 E0 E0 E0 E0 E0 E0 E0 E0 0 0 E0 E0 E0 E0 E0 E0 E0 E0 Xc 0 E0 E0 E0 E0 E0 E0 E0 E0 a 0=Xa (a&&(m.nodes.all ZD&&(Jo m.region&&rest 10 m))):=fun a=>by
  have q:=l16 m (sel (fun g=>(kf 10).contains g) m) h (J3 _ h) m.nodes.length 0 Zr a (by omega) (by have:=Yi h.nodes;omega);rw [X7,Yb] at q;exact q
 unfold G10 ofM;rw [YR,P3 (show ¬ (P0 .lss m.kind 1)=Xb by simp only [CQ];omega),P3 (show ¬ (P0 .gtr m.kind 17)=Xb by simp only [CQ];omega),s50,Xd,b,s51,Xd,c,s51,Xd,d];rw [P3 (show ¬ (!true)=Xb by decide),P3 (show ¬ (!true)=Xb by decide),P3 (show ¬ (!true)=Xb by decide)];rw [kn m 1 (by omega),kn m 2 (by omega),kn m 4 (by omega),kn m 5 (by omega),kn m 6 (by omega),kn m 12 (by omega),kn m 13 (by omega),kn m 14 (by omega),kn m 15 (by omega),kn m 16 (by omega),kn m 17 (by omega)];simp only [L,s53,Xd]
 cases hr:rest 10 m with
 | false =>
  simp only [Ur]
  repeat' split
  all_goals rfl
 | true =>
  have f:=JI (J0 hr 5 (by omega) rfl);show _=Xa ((Zh m 0&&(Zh m 2&&Xb))&&Xb)
  repeat' split
  all_goals (refine congrArg Xa ?_;rw [Zm];simp only [Zh,JO,CQ] at * <;> grind)
def ZCt (m:Msg) (h:m.Fits) (e:m.kind=11) (b:JR m.view=Xb) (c:Zw m.frm=Xb) (d:Zw m.to=Xb):G10 m=Xa ((kf 11).all (Zh m)&&rest 11 m):=by
 have L:∀ a,G10L m m.kind m.view m.frm m.to 0 m.region 0 m.op.core m.op.op m.op.part 0 Xc 0 0 0 0 0 0 0 0 0 0 0 0 0 0 0 0 0 0 0 0 E0 0 0 0 0 0 0 Xc E0 E0 E0 E0 0 0 E0 E0 E0 E0 E0 E0 E0 E0 0 0 E0 E0 E0 E0 E0 E0 E0 E0 Xc 0 E0 E0 E0 E0 E0 E0 E0 E0 a 0=Xa (a&&(m.nodes.all ZD&&(Jo m.region&&rest 11 m))):=fun a=>by
  have q:=l16 m (sel (fun g=>(kf 11).contains g) m) h (J3 _ h) m.nodes.length 0 Zr a (by omega) (by have:=Yi h.nodes;omega);rw [X7,Yb] at q;exact q
 unfold G10 ofM;rw [YR,P3 (show ¬ (P0 .lss m.kind 1)=Xb by simp only [CQ];omega),P3 (show ¬ (P0 .gtr m.kind 17)=Xb by simp only [CQ];omega),s50,Xd,b,s51,Xd,c,s51,Xd,d];rw [P3 (show ¬ (!true)=Xb by decide),P3 (show ¬ (!true)=Xb by decide),P3 (show ¬ (!true)=Xb by decide)];rw [kn m 1 (by omega),kn m 2 (by omega),kn m 4 (by omega),kn m 5 (by omega),kn m 6 (by omega),kn m 12 (by omega),kn m 13 (by omega),kn m 14 (by omega),kn m 15 (by omega),kn m 16 (by omega),kn m 17 (by omega)];simp only [L,s53,Xd]
 cases hr:rest 11 m with
 | false =>
  simp only [Ur]
  repeat' split
  all_goals rfl
 | true =>
  have f:=JI (J0 hr 5 (by omega) rfl);show _=Xa ((Zh m 0&&(Zh m 2&&Xb))&&Xb)
  repeat' split
  all_goals (refine congrArg Xa ?_;rw [Zm];simp only [Zh,JO,CQ] at * <;> grind)
def Zzl (m:Msg) (h:m.Fits) (b:m.kind=12) (c:JR m.view=Xb) (d:Zw m.frm=Xb) (e:Zw m.to=Xb):G10 m=Xa ((kf 12).all (Zh m)&&rest 12 m):=by
 have L:∀ a,G10L m m.kind m.view m.frm m.to m.round 0 0 0 0 0 0 Xc 0 0 0 0 0 0 0 0 0 0 0 0 0 0 0 0 0 0 0 0 E0 0 0 0 0 0 0 Xc E0 E0 (Zd m.cores) E0 0 0 E0 E0 E0 E0 E0 E0 E0 E0 0 0 E0 E0 E0 E0 E0 E0 E0 E0 Xc 0 E0 E0 E0 E0 E0 E0 E0 E0 a 0=Xa (a&&(m.nodes.all ZD&&(Jo m.region&&rest 12 m))):=fun a=>by
  have q:=l16 m (sel (fun g=>(kf 12).contains g) m) h (J3 _ h) m.nodes.length 0 Zr a (by omega) (by have:=Yi h.nodes;omega);rw [X7,Yb] at q;exact q
 unfold G10 ofM;rw [YR,P3 (show ¬ (P0 .lss m.kind 1)=Xb by simp only [CQ];omega),P3 (show ¬ (P0 .gtr m.kind 17)=Xb by simp only [CQ];omega),s50,Xd,c,s51,Xd,d,s51,Xd,e];rw [P3 (show ¬ (!true)=Xb by decide),P3 (show ¬ (!true)=Xb by decide),P3 (show ¬ (!true)=Xb by decide)];rw [kn m 1 (by omega),kn m 2 (by omega),kn m 4 (by omega),kn m 5 (by omega),kn m 6 (by omega)];rw [P4 (keq b)];simp only [L,s50,s56 _ h.cores,Xd]
 cases hr:rest 12 m with
 | false =>
  simp only [Ur]
  repeat' split
  all_goals rfl
 | true =>
  have f:=JI (J0 hr 5 (by omega) rfl);have i:=Zac (J0 hr 0 (by omega) rfl);show _=Xa ((Zh m 8&&(Zh m 9&&Xb))&&Xb)
  repeat' split
  all_goals (refine congrArg Xa ?_;rw [Zm];simp only [Zh,JO,CQ] at * <;> grind)
def ZCP (m:Msg) (h:m.Fits) (b:m.kind=13) (c:JR m.view=Xb) (d:Zw m.frm=Xb) (e:Zw m.to=Xb):G10 m=Xa ((kf 13).all (Zh m)&&rest 13 m):=by
 have L:∀ a,G10L m m.kind m.view m.frm m.to m.round 0 0 0 0 0 0 Xc 0 0 0 0 0 0 0 0 0 0 0 0 0 0 0 0 0 0 0 0 E0 0 0 0 0 0 0 Xc E0 E0 E0 E0 0 0 E0 E0 E0 E0 E0 E0 E0 E0 m.report.core m.report.view.number (Zd m.report.view.members) (Zd m.report.view.owners) (m.report.state.slots.map Zv) (m.report.state.pending.map Jq) (m.report.state.marks.map Zz) (m.report.state.answers.map JB) (m.report.state.entries.map Zi) (Ze m.report.state.commits) m.report.ready m.report.next.number (Zd m.report.next.members) (Zd m.report.next.owners) (m.report.proposal.slots.map Zv) (m.report.proposal.pending.map Jq) (m.report.proposal.marks.map Zz) (m.report.proposal.answers.map JB) (m.report.proposal.entries.map Zi) (Ze m.report.proposal.commits) a 0=Xa (a&&(m.nodes.all ZD&&(Jo m.region&&rest 13 m))):=fun a=>by
  have q:=l16 m (sel (fun g=>(kf 13).contains g) m) h (J3 _ h) m.nodes.length 0 Zr a (by omega) (by have:=Yi h.nodes;omega);rw [X7,Yb] at q;exact q
 unfold G10 ofM;rw [YR,P3 (show ¬ (P0 .lss m.kind 1)=Xb by simp only [CQ];omega),P3 (show ¬ (P0 .gtr m.kind 17)=Xb by simp only [CQ];omega),s50,Xd,c,s51,Xd,d,s51,Xd,e];rw [P3 (show ¬ (!true)=Xb by decide),P3 (show ¬ (!true)=Xb by decide),P3 (show ¬ (!true)=Xb by decide)];rw [kn m 1 (by omega),kn m 2 (by omega),kn m 4 (by omega),kn m 5 (by omega),kn m 6 (by omega),kn m 12 (by omega)];rw [P4 (keq b)];simp only [L,s50,s57 _ h.report,Xd]
 cases hr:rest 13 m with
 | false =>
  simp only [Ur]
  repeat' split
  all_goals rfl
 | true =>
  have f:=JI (J0 hr 5 (by omega) rfl);have i:=Zac (J0 hr 0 (by omega) rfl);show _=Xa ((Zh m 8&&(Zh m 10&&Xb))&&Xb)
  repeat' split
  all_goals (refine congrArg Xa ?_;rw [Zm];simp only [Zh,JO,CQ] at * <;> grind)
def Zza (m:Msg) (h:m.Fits) (b:m.kind=14) (c:JR m.view=Xb) (d:Zw m.frm=Xb) (e:Zw m.to=Xb):G10 m=Xa ((kf 14).all (Zh m)&&rest 14 m):=by
 have L:∀ a,G10L m m.kind m.view m.frm m.to m.round 0 0 0 0 0 0 Xc 0 0 0 0 0 0 0 0 0 0 0 0 0 0 0 0 0 0 0 0 E0 0 0 0 0 0 0 Xc E0 E0 (Zd m.cores) E0 m.base m.next.number (Zd m.next.members) (Zd m.next.owners) (m.state.slots.map Zv) (m.state.pending.map Jq) (m.state.marks.map Zz) (m.state.answers.map JB) (m.state.entries.map Zi) (Ze m.state.commits) 0 0 E0 E0 E0 E0 E0 E0 E0 E0 Xc 0 E0 E0 E0 E0 E0 E0 E0 E0 a 0=Xa (a&&(m.nodes.all ZD&&(Jo m.region&&rest 14 m))):=fun a=>by
  have q:=l16 m (sel (fun g=>(kf 14).contains g) m) h (J3 _ h) m.nodes.length 0 Zr a (by omega) (by have:=Yi h.nodes;omega);rw [X7,Yb] at q;exact q
 unfold G10 ofM;rw [YR,P3 (show ¬ (P0 .lss m.kind 1)=Xb by simp only [CQ];omega),P3 (show ¬ (P0 .gtr m.kind 17)=Xb by simp only [CQ];omega),s50,Xd,c,s51,Xd,d,s51,Xd,e];rw [P3 (show ¬ (!true)=Xb by decide),P3 (show ¬ (!true)=Xb by decide),P3 (show ¬ (!true)=Xb by decide)];rw [kn m 1 (by omega),kn m 2 (by omega),kn m 4 (by omega),kn m 5 (by omega),kn m 6 (by omega),kn m 12 (by omega),kn m 13 (by omega)];rw [P4 (keq b)];simp only [L,s50,s56 _ h.cores,s58 _ h.next.members h.next.owners,s59 _ h.state,Xd]
 cases hr:rest 14 m with
 | false =>
  simp only [Ur]
  repeat' split
  all_goals rfl
 | true =>
  have f:=JI (J0 hr 5 (by omega) rfl);have i:=Zac (J0 hr 0 (by omega) rfl);show _=Xa ((Zh m 8&&(Zh m 11&&(Zh m 9&&(Zh m 12&&(Zh m 13&&Xb)))))&&Xb)
  repeat' split
  all_goals (refine congrArg Xa ?_;rw [Zm];simp only [Zh,JO,CQ] at * <;> grind)
def ZBM (m:Msg) (h:m.Fits) (b:m.kind=15) (c:JR m.view=Xb) (d:Zw m.frm=Xb) (e:Zw m.to=Xb):G10 m=Xa ((kf 15).all (Zh m)&&rest 15 m):=by
 have L:∀ a,G10L m m.kind m.view m.frm m.to m.round 0 0 0 0 0 0 Xc 0 0 0 0 0 0 0 0 0 0 0 0 0 0 0 0 0 0 0 0 E0 0 0 0 0 0 0 Xc E0 E0 E0 E0 0 0 E0 E0 E0 E0 E0 E0 E0 E0 0 0 E0 E0 E0 E0 E0 E0 E0 E0 Xc 0 E0 E0 E0 E0 E0 E0 E0 E0 a 0=Xa (a&&(m.nodes.all ZD&&(Jo m.region&&rest 15 m))):=fun a=>by
  have q:=l16 m (sel (fun g=>(kf 15).contains g) m) h (J3 _ h) m.nodes.length 0 Zr a (by omega) (by have:=Yi h.nodes;omega);rw [X7,Yb] at q;exact q
 unfold G10 ofM;rw [YR,P3 (show ¬ (P0 .lss m.kind 1)=Xb by simp only [CQ];omega),P3 (show ¬ (P0 .gtr m.kind 17)=Xb by simp only [CQ];omega),s50,Xd,c,s51,Xd,d,s51,Xd,e];rw [P3 (show ¬ (!true)=Xb by decide),P3 (show ¬ (!true)=Xb by decide),P3 (show ¬ (!true)=Xb by decide)];rw [kn m 1 (by omega),kn m 2 (by omega),kn m 4 (by omega),kn m 5 (by omega),kn m 6 (by omega),kn m 12 (by omega),kn m 13 (by omega),kn m 14 (by omega)];rw [P4 (keq b)];simp only [L,s50,Xd]
 cases hr:rest 15 m with
 | false =>
  simp only [Ur]
  repeat' split
  all_goals rfl
 | true =>
  have f:=JI (J0 hr 5 (by omega) rfl);have i:=Zac (J0 hr 0 (by omega) rfl);show _=Xa ((Zh m 8&&Xb)&&Xb)
  repeat' split
  all_goals (refine congrArg Xa ?_;rw [Zm];simp only [Zh,JO,CQ] at * <;> grind)
def Zz9 (m:Msg) (h:m.Fits) (b:m.kind=16) (c:JR m.view=Xb) (d:Zw m.frm=Xb) (e:Zw m.to=Xb):G10 m=Xa ((kf 16).all (Zh m)&&rest 16 m):=by
 have L:∀ a,G10L m m.kind m.view m.frm m.to m.round 0 0 0 0 0 0 Xc 0 0 0 0 0 0 0 0 0 0 0 0 0 0 0 0 0 0 0 0 E0 0 0 0 0 0 0 Xc E0 E0 E0 E0 0 0 E0 E0 E0 E0 E0 E0 E0 E0 0 0 E0 E0 E0 E0 E0 E0 E0 E0 Xc 0 E0 E0 E0 E0 E0 E0 E0 E0 a 0=Xa (a&&(m.nodes.all ZD&&(Jo m.region&&rest 16 m))):=fun a=>by
  have q:=l16 m (sel (fun g=>(kf 16).contains g) m) h (J3 _ h) m.nodes.length 0 Zr a (by omega) (by have:=Yi h.nodes;omega);rw [X7,Yb] at q;exact q
 unfold G10 ofM;rw [YR,P3 (show ¬ (P0 .lss m.kind 1)=Xb by simp only [CQ];omega),P3 (show ¬ (P0 .gtr m.kind 17)=Xb by simp only [CQ];omega),s50,Xd,c,s51,Xd,d,s51,Xd,e];rw [P3 (show ¬ (!true)=Xb by decide),P3 (show ¬ (!true)=Xb by decide),P3 (show ¬ (!true)=Xb by decide)];rw [kn m 1 (by omega),kn m 2 (by omega),kn m 4 (by omega),kn m 5 (by omega),kn m 6 (by omega),kn m 12 (by omega),kn m 13 (by omega),kn m 14 (by omega),kn m 15 (by omega)];rw [P4 (keq b)];simp only [L,s50,Xd]
 cases hr:rest 16 m with
 | false =>
  simp only [Ur]
  repeat' split
  all_goals rfl
 | true =>
  have f:=JI (J0 hr 5 (by omega) rfl);have i:=Zac (J0 hr 0 (by omega) rfl);show _=Xa ((Zh m 8&&Xb)&&Xb)
  repeat' split
  all_goals (refine congrArg Xa ?_;rw [Zm];simp only [Zh,JO,CQ] at * <;> grind)
def ZzH (m:Msg) (h:m.Fits) (b:m.kind=17) (c:JR m.view=Xb) (d:Zw m.frm=Xb) (e:Zw m.to=Xb):G10 m=Xa ((kf 17).all (Zh m)&&rest 17 m):=by
 have L:∀ a,G10L m m.kind m.view m.frm m.to 0 0 0 0 0 0 0 Xc 0 0 0 0 0 0 0 0 0 0 0 0 0 0 0 0 0 0 0 0 E0 0 0 0 0 0 0 Xc E0 E0 (Zd m.cores) (m.moves.map YE) 0 0 E0 E0 E0 E0 E0 E0 E0 E0 0 0 E0 E0 E0 E0 E0 E0 E0 E0 Xc 0 E0 E0 E0 E0 E0 E0 E0 E0 a 0=Xa (a&&(m.nodes.all ZD&&(Jo m.region&&rest 17 m))):=fun a=>by
  have q:=l16 m (sel (fun g=>(kf 17).contains g) m) h (J3 _ h) m.nodes.length 0 Zr a (by omega) (by have:=Yi h.nodes;omega);rw [X7,Yb] at q;exact q
 unfold G10 ofM;rw [YR,P3 (show ¬ (P0 .lss m.kind 1)=Xb by simp only [CQ];omega),P3 (show ¬ (P0 .gtr m.kind 17)=Xb by simp only [CQ];omega),s50,Xd,c,s51,Xd,d,s51,Xd,e];rw [P3 (show ¬ (!true)=Xb by decide),P3 (show ¬ (!true)=Xb by decide),P3 (show ¬ (!true)=Xb by decide)];rw [kn m 1 (by omega),kn m 2 (by omega),kn m 4 (by omega),kn m 5 (by omega),kn m 6 (by omega),kn m 12 (by omega),kn m 13 (by omega),kn m 14 (by omega),kn m 15 (by omega),kn m 16 (by omega)];rw [P4 (keq b)];simp only [L,s56 _ h.cores,s60 _ h.moves,Xd]
 cases hr:rest 17 m with
 | false =>
  simp only [Ur]
  repeat' split
  all_goals rfl
 | true =>
  have f:=JI (J0 hr 5 (by omega) rfl);have i:=Zac (J0 hr 0 (by omega) rfl);show _=Xa ((Zh m 9&&(Zh m 14&&Xb))&&Xb)
  repeat' split
  all_goals (refine congrArg Xa ?_;rw [Zm];simp only [Zh,JO,CQ] at * <;> grind)
def ZGG (m:Msg) (h:m.Fits):G10 m=Xa (Z1 m):=by
 unfold Z1 headOk;by_cases hk:1≤m.kind∧m.kind≤17
 ·rw [show kindOk m.kind=Xb from decide_eq_true hk]
  cases h1:JR m.view with
  | false =>
   unfold G10 ofM;rw [YR,P3 (show ¬ (P0 .lss m.kind 1)=Xb by simp only [CQ];omega),P3 (show ¬ (P0 .gtr m.kind 17)=Xb by simp only [CQ];omega),s50,Xd,h1];rfl
  | true =>
   cases h2:Zw m.frm with
   | false =>
    unfold G10 ofM;rw [YR,P3 (show ¬ (P0 .lss m.kind 1)=Xb by simp only [CQ];omega),P3 (show ¬ (P0 .gtr m.kind 17)=Xb by simp only [CQ];omega),s50,Xd,h1,s51,Xd,h2];rfl
   | true =>
    cases h3:Zw m.to with
    | false =>
     unfold G10 ofM;rw [YR,P3 (show ¬ (P0 .lss m.kind 1)=Xb by simp only [CQ];omega),P3 (show ¬ (P0 .gtr m.kind 17)=Xb by simp only [CQ];omega),s50,Xd,h1,s51,Xd,h2,s51,Xd,h3];rfl
    | true =>
     rcases (show m.kind=1∨m.kind=2∨m.kind=3∨m.kind=4∨m.kind=5∨m.kind=6∨m.kind=7∨m.kind=8∨m.kind=9∨m.kind=10∨m.kind=11∨m.kind=12∨m.kind=13∨m.kind=14∨m.kind=15∨m.kind=16∨m.kind=17 by omega) with e | e | e | e | e | e | e | e | e | e | e | e | e | e | e | e | e
     ·rw [ZHV m h e h1 h2 h3,e];rfl
     ·rw [ZHA m h e h1 h2 h3,e];rfl
     ·rw [ZG7 m h e h1 h2 h3,e];rfl
     ·rw [ZE9 m h e h1 h2 h3,e];rfl
     ·rw [ZFF m h e h1 h2 h3,e];rfl
     ·rw [ZFt m h e h1 h2 h3,e];rfl
     ·rw [ZFZ m h e h1 h2 h3,e];rfl
     ·rw [ZEK m h e h1 h2 h3,e];rfl
     ·rw [ZE7 m h e h1 h2 h3,e];rfl
     ·rw [ZyZ m h e h1 h2 h3,e];rfl
     ·rw [ZCt m h e h1 h2 h3,e];rfl
     ·rw [Zzl m h e h1 h2 h3,e];rfl
     ·rw [ZCP m h e h1 h2 h3,e];rfl
     ·rw [Zza m h e h1 h2 h3,e];rfl
     ·rw [ZBM m h e h1 h2 h3,e];rfl
     ·rw [Zz9 m h e h1 h2 h3,e];rfl
     ·rw [ZzH m h e h1 h2 h3,e];rfl
 ·unfold G10 ofM;rw [show kindOk m.kind=Xc from decide_eq_false hk,YR];by_cases hl:m.kind < 1
  ·rw [P4 (show (P0 .lss m.kind 1)=Xb by simp only [CQ];omega)];rfl
  ·rw [P3 (show ¬ (P0 .lss m.kind 1)=Xb by simp only [CQ];omega),P4 (show (P0 .gtr m.kind 17)=Xb by simp only [CQ];omega)];rfl
def s16 (m:Msg) (h:m.Fits):ofM g16 m=Xa (Z1 m):=ZGG m h
def Zu0 {n:Type} {F:Nat→LL→Int→Option LL} (l:List n) (f:n→LL) (o:l.length < 2^63)
  (c:∀ (k i:Nat) (g:i < l.length),F (k+1) ((l.take i).flatMap f) (i:Int)=F k ((l.take i).flatMap f++f l[i]) ((i+1:Nat):Int))
  (b:∀ (k:Nat) (d:LL) (i:Nat),l.length≤i→F (k+1) d (i:Int)=Xa d):F Zr [] 0=Xa (l.flatMap f):=by
 have m:∀ (j i a:Nat),l.length≤i+j→j < a→F a ((l.take i).flatMap f) (i:Int)=Xa (l.flatMap f):=by
  intro j
  induction j with
  | zero =>
   intro i a h p;obtain ⟨q,rfl⟩:∃ q,a=q+1:=⟨a-1,by omega⟩;rw [b q _ i (by omega),UM (by omega)]
  | succ j ih =>
   intro i a h p;obtain ⟨q,rfl⟩:∃ q,a=q+1:=⟨a-1,by omega⟩;by_cases g:i < l.length
   ·have e:(l.take i).flatMap f++f l[i]=(l.take (i+1)).flatMap f:=by
     rw [Tz,Xp g,Option.toList_some,List.flatMap_append,List.flatMap_singleton]
    rw [c q i g,e];exact ih (i+1) q (by omega) (by omega)
   ·rw [b q _ i (by omega),UM (by omega)]
 exact m l.length 0 Zr (by omega) (by have:=Yi o;omega)
def Zmb {b:Type} (f:b→List AV) (l:List b):l.flatMap (fun x=>[f x])=l.map f:=by
 induction l with
 | nil => rfl
 | cons a r ih => rw [List.flatMap_cons, ih, List.map_cons]; rfl
def ZV {a b:LL} {k:Nat} (h:a.length+b.length≤4096) (c:k≤10000):Z6 a b k:=by
 unfold Z6 Yh;have:(a.length+b.length)*(k+1)≤4096*10001:=Nat.mul_le_mul h (by omega);omega
def s76 (l:List Id) (h:l.length≤64):g76 (Ze l)=Xa (Ze l):=by
 rw [ZAj];exact Zg (ZV (by rw [ZX];simp;omega) (by omega)) _
def s25 (n:Yc) (h:n.path.length≤64):g25 n.id.core n.id.op n.id.part (Ze n.path) n.cap.kind n.cap.base n.cap.bits n.cap.rights n.cap.width n.cap.level n.cap.device=Xa (Ziv n):=by
 rw [ZAP,s76 _ h];rfl
structure ZIJ (l:List YN):Prop where
 len:l.length≤70
 path:∀ s∈l,s.node.path.length≤20
def Zeb {a:Type} (f:a→List AV) (g:a→a) (l:List a) (i o:Nat) (c:List AV) (h:∀ x,l[i]? = Xa x→setCells (f x) o c=f (g x)):Jk (l.map f) i o c=(l.modify i g).map f:=by
 unfold Jk;refine Tc fun j=>?_;rw [TJ,Xy,Xy,TJ]
 cases hj:l[j]? with
 | none => rfl
 | some x =>
  by_cases hij:i=j
  ·subst hij;simp [h x hj]
  ·simp [hij]
def ZzX (op:Int) (s:YN):YN:={ s with op:=op }
def ZBn (a:List YN) (i:Nat) (op:Int):Jk (a.map Zv) i 11 [I op]=(a.modify i (ZzX op)).map Zv:=Zeb Zv (ZzX op) a i 11 _ fun _ _=>rfl
def Ziz {γ:Type} {F:Nat→Int→Option γ} {n:Nat} (b:Nat→γ) (p:Nat→Bool) (f:n < 2^63)
  (c:∀ k i:Nat,i < n→F (k+1) (i:Int)=if p i=Xb then Xa (b i) else F k ((i+1:Nat):Int))
  (d:∀ k:Nat,F (k+1) (n:Int)=Xa (b n)) (m:Nat) (r:m≤n) (g:∀ j,j < m→p j=Xc) (l:m < n→p m=Xb):F Zr 0=Xa (b m):=by
 have e:∀ (j i a:Nat),i+j=m→n-i < a→F a (i:Int)=Xa (b m):=by
  intro j
  induction j with
  | zero =>
   intro i a h o;obtain ⟨q,rfl⟩:∃ q,a=q+1:=⟨a-1,by omega⟩;have:i=m:=by omega
   subst this;by_cases hi:i < n
   ·rw [c q i hi,P4 (l hi)]
   ·have:i=n:=by omega
    subst this;exact d q
  | succ j ih =>
   intro i a h o;obtain ⟨q,rfl⟩:∃ q,a=q+1:=⟨a-1,by omega⟩;rw [c q i (by omega),P3 (by rw [g i (by omega)];exact UE)];exact ih (i+1) q (by omega) (by omega)
 exact e m 0 Zr (by omega) (by have:=Yi f;omega)
def Zht {b:Type} (q:b→Bool):List b→Nat
 | [] => 0
 | a :: r => match q a with | true => 0 | false => Zht q r + 1
def ZjM {b:Type} (q:b→Bool):∀ (l:List b),Zht q l≤l.length
 | [] => Xr _
 | a :: r => by
  unfold Zht;have:=ZjM q r;split<;>simp only [Xv]<;>omega
def ZlQ {c:Type} (q:c→Bool):∀ (l:List c) (j:Nat) (b:j < l.length),j < Zht q l→q l[j]=Xc
 | [], j, b, _ => by simp at b
 | a :: r, j, b, h => by
  unfold Zht at h;split at h
  ·omega
  ·rename_i d
   cases j with
   | zero => exact d
   | succ j => exact ZlQ q r j (by simpa using b) (by omega)
def ZqY {b:Type} (q:b→Bool):∀ (l:List b) (h:Zht q l < l.length),q l[Zht q l]=Xb
 | [], h => by simp at h
 | a :: r, h => by
  cases ha:q a with
  | true =>
   have e:Zht q (a::r)=0:=by unfold Zht;rw [ha]
   simp only [e];exact ha
  | false =>
   have e:Zht q (a::r)=Zht q r+1:=by rw [Zht];rw [ha]
   have c:Zht q r < r.length:=by rw [e] at h;simpa using h
   have:=ZqY q r c;simp only [e];exact this
def ZlC (n m:Nat):Int:=if m < n then (m:Int) else -1
def ZmJ (n m:Nat):P0 .geq (ZlC n m) 0=decide (m < n):=by
 unfold ZlC;rw [Zm];split<;>simp only [CQ]<;>constructor<;>intro<;>first | omega | simp_all
def Zku {n m:Nat} (h:m < n):ZlC n m=(m:Int):=P4 h
def before (r q:Req):Bool:=Zyg r.id q.id
def Zfn (s:YN):Bool:=decide (s.node.id=zid)
def Zpa (s:YN):((P0 .eql s.node.id.core 0)&&((P0 .eql s.node.id.op 0)&&((P0 .eql s.node.id.part 0)&&Xb)))=Zfn s:=by
 rw [Zm,Kx];unfold Zfn;rw [P5]
def s81 (s:YN):g81 s.node.id.core s.node.id.op s.node.id.part (Ze s.node.path) s.node.cap.kind s.node.cap.base s.node.cap.bits s.node.cap.rights s.node.cap.width s.node.cap.level s.node.cap.device s.op s.lock.core s.lock.op s.lock.part=Xa (Zfn s):=by rw [Zqk,Zpa]
def lockS (ids:List Id) (a:Id) (s:YN):YN:=if Zfn s=Xc∧ids.contains s.node.id=Xb then { s with lock:=a } else s
def ZHo (n:Yc) (s:YN):YN:={ s with node:=n }
def Zki {n:Yc} (h:ZD n=Xb):n.path.length≤8:=by
 simp only [ZD,Xj,P5] at h;exact h.1.2
def Zsi (l:List YN) (i:Nat) (n:Yc):Jk (l.map Zv) i 0 (YM n)=(l.modify i (ZHo n)).map Zv:=Zeb Zv (ZHo n) l i 0 _ fun _ _=>rfl
def rep (k e:Int) (m:Msg):Msg:=⟨k,0,0,m.frm,0,m.region,0,m.op,e,Xc,Jr,[],[],[],[],0,ZW,Zk,Zn⟩
def s13 (x n:Int) (j:1≤n) (k:n < 2^62):g13 x n=Xa (x % n):=by
 have d:(2:Int)^62=4611686018427387904:=by decide
 have e:=Int.emod_nonneg x (show n≠0 by omega);have f:=Int.emod_lt_of_pos x (show 0 < n by omega);have g:P1 .rem .i64 x n=x.tmod n:=rfl;rw [ZBr,P3 (by simp only [CQ];omega),Zg (by omega),g];have:=Int.tmod_eq_emod (a:=x) (b:=n);by_cases hd:0≤x∨n ∣ x
 ·rw [P4 hd] at this;rw [P3 (by simp only [CQ];omega)];congr 1;omega
 ·rw [P3 hd] at this;have c:((n.natAbs:Nat):Int)=n:=by omega
  have i:x % n≠0:=fun h=>hd (.inr (Int.dvd_of_emod_eq_zero h));rw [P4 (by simp only [CQ];omega),JE (by omega) (by omega)];congr 1;omega
structure Zxa where
 root:Bool
 src:Int
 core:Int
 slot:Int
 kind:Int
 base:Int
 bits:Int
 count:Int
 rights:Int
 copy:Bool
def Zck (s:Zxa):List AV:=[B s.root,I s.src,I s.core,I s.slot,I s.kind,I s.base,I s.bits,I s.count,I s.rights,B s.copy]
def ZyX:Tryz.prog.cellsOf 84=10:=by kernel_rfl
def ZJp (a b:Int):Zyo a b=Xa (ZcS a b):=by
 rw [ZwV];simp only [ZEl,Xd]
 cases h:V3 a b with
 | false => simp [ZcS, h]
 | true =>
  obtain ⟨d,e,f,g,i⟩:=Zdk h;have c:Xi .u64 b=b:=Jc (by omega) (by omega);simp only [Bool.not_true,Xw,if_false,c];rw [Zg (by omega),Zve h]
def ZHs (a b c d:Int):ZBu a b c d=Xa (ZCf a b c d):=by
 rw [Zv7];simp only [ZEl,ZJp,Xd]
 repeat' split
 all_goals (refine congrArg Xa ?_;rw [Zm];simp only [ZCf,ZK,ZN,ZL,ZJ,ZI,ZG,ZM,ZO,ZP,ZF,ZE,ZH,XE,XK,Xu,XN,Xj,XF,P5,decide_eq_false_iff_not,Xw,XO,Xd,Xg,false_iff,true_iff,iff_false,iff_true] at *; grind)
def ZKB (a b c d:Int):ZGa a b c d=Xa (inB a b c d):=by
 rw [Zuw];simp only [ZEl,ZJp,Xd]
 repeat' split
 all_goals (refine congrArg Xa ?_;rw [Zm];simp only [inB,ZK,ZN,ZL,ZJ,ZI,ZG,ZM,ZO,ZP,ZF,ZE,ZH,XE,XK,Xu,XN,Xj,XF,P5,decide_eq_false_iff_not,Xw,XO,Xd,Xg,false_iff,true_iff,iff_false,iff_true] at *; grind)
def s86 (k b s r w l:Int) (d:Bool) (m:Int):g86 k b s r w l d m=Xa (k,b,s,P1 .and .i64 r m,w,l,d):=Zzk ..
def l87 {b r w l k s:Int} {d fl:Bool} {lv wd bits c off obj cnt:Int} (x:0≤b) (g:0≤off) (e:0≤c) (y:cnt≤8) (z:b+off+8*c < 2^62):∀ (j i a:Nat),cnt=i+j→j < a→
  WD a obj bits lv wd off cnt k b s r w l d fl c (KA obj (b+off) c bits r (if fl=Xb then wd else 0) (if fl=Xb then lv else 0) d i) i=Xa (KA obj (b+off) c bits r (if fl=Xb then wd else 0) (if fl=Xb then lv else 0) d cnt.toNat,0):=by
 intro j;have t:(2:Int)^62=4611686018427387904:=by decide
 induction j with
 | zero =>
  intro i a h u;obtain ⟨f,rfl⟩:∃ f,a=f+1:=⟨a-1,by omega⟩;rw [ZmQ,P3 (by simp only [ZK,ZN,ZL,ZJ,ZI,ZG,ZM,ZO,ZP,ZF,ZE,ZH,XE,XK,Xu,XN,Xj,XF,P5,decide_eq_false_iff_not,Xw,XO,Xd,Xg,false_iff,true_iff,iff_false,iff_true];omega)];have:cnt.toNat=i:=by omega
  rw [this]
 | succ j ih =>
  intro i a h u;obtain ⟨f,rfl⟩:∃ f,a=f+1:=⟨a-1,by omega⟩;have v:(i:Int)*c≤8*c:=U9 (by omega) e;have m:0≤(i:Int)*c:=Int.mul_nonneg (by omega) e;have n:P1 .add .i64 b off=b+off:=JE (by omega) (by omega);have o:P1 .mul .i64 i c=i*c:=Zfd (by omega) (by omega);have p:P1 .add .i64 (b+off) (i*c)=b+off+i*c:=JE (by omega) (by omega);have q:P1 .add .i64 i 1=((i+1:Nat):Int):=by rw [JE (by omega) (by omega)];omega
  have:=ih (i+1) f (by omega) (by omega);rw [Zgm] at this;rw [ZmQ,P4 (by simp only [ZK,ZN,ZL,ZJ,ZI,ZG,ZM,ZO,ZP,ZF,ZE,ZH,XE,XK,Xu,XN,Xj,XF,P5,decide_eq_false_iff_not,Xw,XO,Xd,Xg,false_iff,true_iff,iff_false,iff_true];omega)]
  cases fl
  ·simp only [Xw,if_false] at this ⊢;rw [Zg (WX (by rw [ZcL];simp;omega)),n,o,p,q];exact this
  ·simp only [if_true] at this ⊢;rw [Zg (WX (by rw [ZcL];simp;omega)),n,o,p,q];exact this
set_option maxHeartbeats 4000000 in
def s87 (k b s r w l:Int) (d:Bool) (obj bits a c off cnt:Int):g87 k b s r w l d obj bits a c off cnt =
  Xa (Zaj ⟨k,b,s,r,w,l,d⟩ obj bits a c off cnt,ZdK ⟨k,b,s,r,w,l,d⟩ obj bits a c off cnt):=by
 rw [ZCD];simp only [ZBg,ZIX,ZI0,Xd];by_cases hh:YH ⟨k,b,s,r,w,l,d⟩=Xb∧k=1∧P1 .and .i64 r 2≠0∧Wx obj bits=Xb∧(obj=3→ZcT c a=Xb)∧1≤cnt∧cnt≤8∧0≤off
 ·obtain ⟨m,rfl,R,n,S,T,z,A⟩:=hh;obtain ⟨C,D,o,E,j,U,G,H,J,f,p,W,X,Y,Z,q⟩:=Zsq m n T z A;have L:(Zy ((0:Int)≤bits):Option (List (List AV)×Int)→_)=fun x=>x:=Zlp G;have M:(Zy ((2:Int)^bits.toNat≠0):Option (List (List AV)×Int)→_)=fun x=>x:=Zlp U;have t:Xi .u64 bits=bits:=Jc G (by omega);have u:Xi .u64 s=s:=Jc H (by simp only at q;omega);have N:(Zy ((0:Int)≤s):Option (List (List AV)×Int)→_)=fun x=>x:=Zlp H;simp only at o j
  have g:∀ fl:Bool,off+cnt*2^bits.toNat≤2^s.toNat→WD Zr obj bits a c off cnt 1 b s r w l d fl (2^bits.toNat) [] 0=Xa (KA obj (b+off) (2^bits.toNat) bits r (if fl=Xb then c else 0) (if fl=Xb then a else 0) d cnt.toNat,0):=by
   intro fl aa
   have:=l87 (fl:=fl) (k:=1) (s:=s) (r:=r) (w:=w) (l:=l) (d:=d) (lv:=a) (wd:=c) (bits:=bits) (obj:=obj) (cnt:=cnt) J A (Int.le_of_lt p) z (show b+off+8*2^bits.toNat < 2^62 by
    have ab:(2:Int)^62=4611686018427387904:=by decide
    simp only at f;omega) cnt.toNat 0 Zr (by omega) (JW (by omega))
   exact this
  have ac:0≤b:=J;have O:b+2^s.toNat≤1099511627776:=f;have i:off≤2^s.toNat→P1 .sub .i64 (2^s.toNat) off=2^s.toNat-off:=fun h=>Ze0 (by omega) (by omega)
  have e:ZdK ⟨1,b,s,r,w,l,d⟩ obj bits a c off cnt=if d=Xb∧obj≠1∧obj≠2 then 5 else if off % 2^bits.toNat≠0∨2^s.toNat-cnt*2^bits.toNat < off∨(obj=1∧s≤bits) then 6 else 0:=by
   rw [ZdK,P3 (by simp [m]),P3 R,P3 (by
    rintro (h | ⟨h,Q⟩ | h | h | h)
    ·rw [n] at h;cases h
    ·rw [S h] at Q;cases Q
    ·omega
    ·omega
    ·omega)]
  have v:P0 .neq (1:Int) 1=Xc:=rfl;simp only [t,u,C,D,o,E,L,M,N,m,n,v,Bool.not_true,Xw,if_false];clear C D o E j L M N;by_cases e5:d=Xb∧obj≠1∧obj≠2
  ·rw [P4 e5] at e;obtain ⟨hd,e1,e2⟩:=e5
   repeat' (with_reducible refine Jf (fun _=>?_) (fun _=>?_))
   all_goals first
    | exact Zle (by decide) e
    | (exfalso; simp only [ZK, ZN, ZL, ZJ, ZI, ZG, ZM, ZO, ZP, ZF, ZE, ZH, XE, XK, Xu, XN, Xj, XF, P5, decide_eq_false_iff_not, Xw, XO, Xd, Xg, false_iff, true_iff, iff_false, iff_true] at *; first | omega | grind)
  ·rw [P3 e5] at e;by_cases e6:off % 2^bits.toNat≠0∨2^s.toNat-cnt*2^bits.toNat < off∨(obj=1∧s≤bits)
   ·rw [P4 e6] at e
    repeat' (with_reducible refine Jf (fun _=>?_) (fun _=>?_))
    all_goals first
     | exact Zle (by decide) e
     | (exfalso; simp only [ZK, ZN, ZL, ZJ, ZI, ZG, ZM, ZO, ZP, ZF, ZE, ZH, XE, XK, Xu, XN, Xj, XF, P5, decide_eq_false_iff_not, Xw, XO, Xd, Xg, false_iff, true_iff, iff_false, iff_true] at *; rw [i (by omega)] at *; first | omega | grind)
     | (exfalso; simp only [ZK, ZN, ZL, ZJ, ZI, ZG, ZM, ZO, ZP, ZF, ZE, ZH, XE, XK, Xu, XN, Xj, XF, P5, decide_eq_false_iff_not, Xw, XO, Xd, Xg, false_iff, true_iff, iff_false, iff_true] at *; first | omega | grind)
   ·rw [P3 e6] at e;have hL:∀ fl,WD Zr obj bits a c off cnt 1 b s r w l d fl (2^bits.toNat) [] 0=Xa (KA obj (b+off) (2^bits.toNat) bits r (if fl=Xb then c else 0) (if fl=Xb then a else 0) d cnt.toNat,0):=fun fl=>g fl (by omega);have j:=i (by omega);simp only [hL,Zaj,e,if_true,j];have y:(P0 .eql obj 3=Xb)=(obj=3):=by simp only [ZK,ZN,ZL,ZJ,ZI,ZG,ZM,ZO,ZP,ZF,ZE,ZH,XE,XK,Xu,XN,Xj,XF,P5,decide_eq_false_iff_not,Xw,XO,Xd,Xg,false_iff,true_iff,iff_false,iff_true]
    simp only [y]
    repeat' (with_reducible refine Jf (fun _=>?_) (fun _=>?_))
    all_goals first
     | rfl
     | (exfalso; simp only [ZK, ZN, ZL, ZJ, ZI, ZG, ZM, ZO, ZP, ZF, ZE, ZH, XE, XK, Xu, XN, Xj, XF, P5, decide_eq_false_iff_not, Xw, XO, Xd, Xg, false_iff, true_iff, iff_false, iff_true] at *; first | omega | grind)
 ·repeat' (with_reducible refine Jf (fun _=>?_) (fun _=>?_))
  all_goals first
   | exact Zle (by decide) (by simp only [ZK, ZN, ZL, ZJ, ZI, ZG, ZM, ZO, ZP, ZF, ZE, ZH, XE, XK, Xu, XN, Xj, XF, P5, decide_eq_false_iff_not, Xw, XO, Xd, Xg, false_iff, true_iff, iff_false, iff_true] at *; simp only [ZdK]; grind)
   | (exfalso; simp only [ZK, ZN, ZL, ZJ, ZI, ZG, ZM, ZO, ZP, ZF, ZE, ZH, XE, XK, Xu, XN, Xj, XF, P5, decide_eq_false_iff_not, Xw, XO, Xd, Xg, false_iff, true_iff, iff_false, iff_true] at *; grind)
def Ret {a:Type} (P:a→Prop) (o:Option a):Prop:=∃ r,o=Xa r∧P r
def Zf {b:Type} {P:b→Prop} {a:b} (h:P a):Ret P (Xa a):=⟨a,rfl,h⟩
def Zb {a b:Type} {P:b→Prop} {Q:a→Prop} {o:Option a} {f:a→Option b} (h:Ret Q o) (k:∀ r,Q r→Ret P (f r)):Ret P (o.bind f):=by
 obtain ⟨r,rfl,c⟩:=h;exact k r c
def Zo {d:Type} {P:d→Prop} {c:Prop} {_:Decidable c} {a b:Option d} (e:c→Ret P a) (f:¬ c→Ret P b):Ret P (if c then a else b):=by
 split
 ·exact e ‹_›
 ·exact f ‹_›
def Zl {a:Type} {P:a→Prop} {p:Prop} {_:Decidable p} {x:Option a} (h:p) (k:Ret P x):Ret P (Zy p x):=by
 rw [Zg h];exact k
def Zc {c:Type} {P:c→Prop} {a b:Option c} (h:a=b) (k:Ret P b):Ret P a:=h ▸ k
def Zl8 {a:Type} {P Q:a→Prop} {o:Option a} (h:Ret P o) (k:∀ r,P r→Q r):Ret Q o:=by
 obtain ⟨r,e,b⟩:=h;exact ⟨r,e,k r b⟩
def Jb {b c:Type} {P:c→Prop} {o:Option b} {a:b} {f:b→Option c} (h:o=Xa a) (k:Ret P (f a)):Ret P (o.bind f):=by
 subst h;exact k
def K3 {σ γ:Type} {P:γ→Prop} {F:Nat→σ→Int→Option γ} {n:Nat} (J:Nat→σ→Prop) (g:n < 2^63)
  (b:∀ (k i:Nat) (s:σ),i < n→J i s→(∀ d,J (i+1) d→Ret P (F k d ((i+1:Nat):Int)))→Ret P (F (k+1) s (i:Int)))
  (c:∀ (k:Nat) (s:σ),J n s→Ret P (F (k+1) s (n:Int))) (s:σ) (h:J 0 s):Ret P (F Zr s 0):=by
 have e:∀ (j i a:Nat) (s:σ),i+j=n→j < a→J i s→Ret P (F a s (i:Int)):=by
  intro j
  induction j with
  | zero =>
   intro i a s h l f;obtain ⟨q,rfl⟩:∃ q,a=q+1:=⟨a-1,by omega⟩;have:i=n:=by omega
   subst this;exact c q s f
  | succ j ih =>
   intro i a s h l f;obtain ⟨q,rfl⟩:∃ q,a=q+1:=⟨a-1,by omega⟩;exact b q i s (by omega) f fun d m=>ih (i+1) q d (by omega) (by omega) m
 exact e n 0 Zr s (by omega) (by have:=Yi g;omega) h
def place (x n:Int) (a:1≤n) (b:n < 2^62):Ret (fun r=>0≤r∧r < n) (g13 x n):=⟨_,s13 x n a b,Int.emod_nonneg x (by omega),Int.emod_lt_of_pos x (by omega)⟩
def ZA (l:List Int) (z:Int):Ret (fun _=>True) (g21 (Zd l) z):=by
 rw [Zuf];refine Zo (fun _=>Zf trivial) fun a=>Zo (fun _=>Zf trivial) fun b=>?_;simp only [CQ,ZT] at a b;have e:z=((z.toNat:Nat):Int):=by omega
 have c:z.toNat < l.length:=by omega
 have:=Z2 (γ:=Int) c (fun r=>Xa r);rw [← e] at this;exact Zc this (Zf trivial)
def ZcM {γ:Type} {P:γ→Prop} {l:List Int} {z:Int} {k:Int→Option γ} (b:0≤z) (h:z.toNat < l.length) (a:Ret P (k l[z.toNat])):Ret P (Zj (Zd l) z [.int .i64] k):=by
 have e:z=((z.toNat:Nat):Int):=by omega
 have:=Z2 h k;rw [← e] at this;exact Zc this a
def Vs {γ:Type} {P:γ→Prop} {l:List ZY} {z:Int} {k:ShsT Zeh→Option γ} (b:0≤z) (h:z.toNat < l.length) (a:Ret P (k (Yx l[z.toNat]))):Ret P (Zj (l.map Zi) z Zeh k):=by
 have e:z=((z.toNat:Nat):Int):=by omega
 have:=Zu h k;rw [← e] at this;exact Zc this a
def ZrA (c:Cap):List AV:=[I c.kind,I c.base,I c.bits,I c.rights,I c.width,I c.level,B c.device]
abbrev ZpZ:List Sh:=[.int .i64,.int .i64,.int .i64,.int .i64,.int .i64,.int .i64,.bool]
def Zx8 (c:Cap):ShsT ZpZ:=(c.kind,c.base,c.bits,c.rights,c.width,c.level,c.device)
def ZbG {γ:Type} {l:List Cap} {i:Nat} (h:i < l.length) (k:ShsT ZpZ→Option γ):Zj (l.map ZrA) (i:Int) ZpZ k=k (Zx8 l[i]):=Y3 (fun _=>rfl) h k
def atP {a:Type} (q:a→Bool) (p:List a) (i:Nat):Bool:=match p[i]? with | some x=>q x | none=>Xc
def Zf8 {a:Type} (q:a→Bool) {p:List a} {i:Nat} (h:i < p.length):atP q p i=q p[i]:=by unfold atP;rw [Xp h]
def idE (i:Id) (e:ZY):Bool:=decide (e.node.id=i)
def plE (c s:Int) (e:ZY):Bool:=decide (e.core=c)&&decide (e.slot=s)
def ZIH (l:List ZY) (c:l.length < 2^63) (j:Id):ZDz (l.map Zi) j.core j.op j.part=Xa (ZlC l.length (Zht (idE j) l)):=by
 rw [ZwK]
 exact Ziz (F:=fun k z=>ZfT k (l.map Zi) j.core j.op j.part z) (n:=l.length) (fun m=>ZlC l.length m) (atP (idE j) l) c
  (fun k i a=>by
   show ZfT (k+1) _ _ _ _ _=_;rw [ZjZ,Xk,P4 (Z4 a)];refine (Zu a _).trans ?_;simp only [Yx,d2,d4,d8,P2,d6,df,dg,dh,di,dj,dk,dl];rw [ZS a c,Zf8 _ a,Zku a,idE];refine Jf (fun b=>?_) fun b=>?_
   ·rw [P4 (by rw [YV] at b;rw [P5];exact b)]
   ·rw [P3 (by rw [YV] at b;rw [P5];exact b)])
  (fun k=>by
   show ZfT (k+1) _ _ _ _ _=_
   rw [ZjZ,Xk,P3 (Z3 (Xr _)),ZlC,P3 (U8 _)]) (Zht (idE j) l) (ZjM _ l) (fun i a=>by
    have d:=ZjM (idE j) l;rw [Zf8 _ (by omega)];exact ZlQ _ l i (by omega) a) (fun h=>by rw [Zf8 _ h];exact ZqY _ l h)
def ZLn (l:List ZY) (e:l.length < 2^63) (c s:Int):ZFh (l.map Zi) c s=Xa (ZlC l.length (Zht (plE c s) l)):=by
 rw [Zxh]
 exact Ziz (F:=fun k z=>Zdy k (l.map Zi) c s z) (n:=l.length) (fun m=>ZlC l.length m) (atP (plE c s) l) e
  (fun k i a=>by
   show Zdy (k+1) _ _ _ _=_;rw [Zh9,Xk,P4 (Z4 a)];refine (Zu a _).trans ?_;simp only [Yx,d2,d4,d8,P2,d6,df,dg,dh,di,dj,dk,dl];rw [ZS a e,Zf8 _ a,Zku a,plE];refine Jf (fun b=>?_) fun b=>?_
   ·simp only [CQ] at b;refine (Zu a _).trans ?_;simp only [Yx,d2,d4,d8,P2,d6,df,dg,dh,di,dj,dk,dl];refine Jf (fun d=>?_) fun d=>?_
    ·simp only [CQ] at d;rw [P4 (by simp [b,d])]
    ·simp only [CQ] at d;rw [P3 (by simp [d])]
   ·simp only [CQ] at b;rw [P3 (by simp [b])])
  (fun k=>by
   show Zdy (k+1) _ _ _ _=_
   rw [Zh9,Xk,P3 (Z3 (Xr _)),ZlC,P3 (U8 _)]) (Zht (plE c s) l) (ZjM _ l) (fun i a=>by
    have f:=ZjM (plE c s) l;rw [Zf8 _ (by omega)];exact ZlQ _ l i (by omega) a) (fun h=>by rw [Zf8 _ h];exact ZqY _ l h)
structure Zyc (l:List ZY):Prop where
 len:l.length≤100
 path:∀ e∈l,e.node.path.length≤20
def ZIM (l:List ZY) (h:Zyc l):ZtU (l.map Zi)=Xa (l.map Zi):=by
 rw [Zu4];have c:l.length < 2^63:=by have:=h.len;omega
 refine (Zu0 (F:=fun k b i=>Zf7 k (l.map Zi) b i) l (fun r=>[Zi r]) c (fun k i a=>?_) (fun k b i a=>?_)).trans (by rw [Zmb])
 ·show Zf7 (k+1) _ _ _=_;rw [Zje,Xk,P4 (Z4 a)];refine (Zu a _).trans ?_;simp only [Yx,d2,d4,d8,P2,d6,df,dg,dh,di,dj,dk,dl];refine (Zu a _).trans ?_;refine (Zu a _).trans ?_;have d:=h.path l[i] (Xq a);simp only [Yx,d2,d4,d8,P2,d6,df,dg,dh,di,dj,dk,dl];rw [s25 l[i].node (by omega),Xd];refine (Zg (ZV ?_ (by omega)) _).trans ?_
  ·rw [Zmb];have:=h.len;simp only [Xk,X5,Xf,Xv,Xm];omega
  ·rw [ZS a c];rfl
 ·show Zf7 (k+1) _ _ _=_;rw [Zje,Xk,P3 (Z3 a)]
def ZCL (l:List ZY) (x:ZY) (r:List ZY):Prop:=∃ i,i≤l.length∧(∀ j (h:j < l.length),j < i→lte x l[j]=Xc)∧(∀ h:i < l.length,lte x l[i]=Xb)∧l.any (idE x.node.id)=Xc∧l.any (plE x.core x.slot)=Xc∧r=l.take i++[x]++l.drop i
def ZtR {a:Type} (q:a→Bool) (l:List a) (h:¬ P0 .geq (ZlC l.length (Zht q l)) 0=Xb):l.any q=Xc:=by
 rw [ZmJ,P5] at h;rw [TD];intro x b;obtain ⟨i,c,rfl⟩:=Uv b;have:=ZlQ q l i c (by omega);simp [this]
def Zpt {l m:List ZY} (h:Zyc l) (a:∀ e∈m,e∈l) (c:m.length≤l.length):Zyc m:=⟨by have:=h.len;omega,fun e b=>h.path e (a e b)⟩
def ZLs (l:List ZY) (h:Zyc l) (x:ZY) (C:x.node.path.length≤20):Ret (fun r=>r=(E0,Xc)∨∃ m,ZCL l x m∧r=(m.map Zi,Xb)) (ZG0 (l.map Zi) x.core x.slot x.node.id.core x.node.id.op x.node.id.part (Ze x.node.path) x.node.cap.kind x.node.cap.base x.node.cap.bits x.node.cap.rights x.node.cap.width x.node.cap.level x.node.cap.device):=by
 have o:l.length < 2^63:=by have:=h.len;omega
 rw [ZuT,ZIH l o x.node.id,Xd];refine Zo (fun _=>Zf (.inl rfl)) fun q=>?_;rw [ZLn l o,Xd];refine Zo (fun _=>Zf (.inl rfl)) fun v=>?_;have w:=ZtR _ _ q;have y:=ZtR _ _ v
 have c:∀ (i:Nat),i≤l.length→(∀ j (h:j < l.length),j < i→lte x l[j]=Xc)→(∀ h:i < l.length,lte x l[i]=Xb)→Ret (fun r=>r=(E0,Xc)∨∃ m,ZCL l x m∧r=(m.map Zi,Xb)) (Zy ((0:Int)≤(i:Int))<|Zy ((i:Int)≤(Xh (l.map Zi):Int))<|
   (ZtU (List.take (XJ (i:Int)) (l.map Zi))).bind fun (b:LL)=>(g25 x.node.id.core x.node.id.op x.node.id.part (Ze x.node.path) x.node.cap.kind x.node.cap.base x.node.cap.bits x.node.cap.rights x.node.cap.width x.node.cap.level x.node.cap.device).bind fun a=>
   Zy (Z6 b (E0++[[I x.core,I x.slot,I a.1,I a.2.1,I a.2.2.1,AV.slice Xc 3 a.2.2.2.1,I (d4 a).1,I (d4 a).2.1,I (d6 a).1,I (d6 a).2.1,I (d8 a).1,I (d8 a).2.1,B a.2.2.2.2.2.2.2.2.2.2]]) 120)<|
   Zy ((0:Int)≤(i:Int))<|Zy ((i:Int)≤(Xh (l.map Zi):Int))<|(ZtU (List.drop (XJ (i:Int)) (l.map Zi))).bind fun (d:LL)=>
   Zy (Z6 (b++(E0++[[I x.core,I x.slot,I a.1,I a.2.1,I a.2.2.1,AV.slice Xc 3 a.2.2.2.1,I (d4 a).1,I (d4 a).2.1,I (d6 a).1,I (d6 a).2.1,I (d8 a).1,I (d8 a).2.1,B a.2.2.2.2.2.2.2.2.2.2]])) d 120)<|
   Xa (((b++(E0++[[I x.core,I x.slot,I a.1,I a.2.1,I a.2.2.1,AV.slice Xc 3 a.2.2.2.1,I (d4 a).1,I (d4 a).2.1,I (d6 a).1,I (d6 a).2.1,I (d8 a).1,I (d8 a).2.1,B a.2.2.2.2.2.2.2.2.2.2]]))++d),Xb)):=by
  intro i f s t;have D:=h.len;refine Zl (by omega) (Zl (by rw [Xk];omega) ?_);rw [Uk,← Uq,← Uy,ZIM _ (Zpt h (fun e u=>XS u) (by simp;omega)),Xd,s25 x.node (by omega),Xd];refine Zl (ZV (by simp;omega) (by omega)) (Zl (by omega) (Zl (by rw [Xk];omega) ?_));rw [ZIM _ (Zpt h (fun e u=>X4 u) (by simp)),Xd];refine Zl (ZV (by simp;omega) (by omega)) (Zf (.inr ⟨_,⟨i,f,s,t,w,y,rfl⟩,?_⟩));simp [Zi,Ziv]
 refine K3 (F:=fun k (_:Unit) z=>Zfu k (l.map Zi) x.core x.slot x.node.id.core x.node.id.op x.node.id.part (Ze x.node.path) x.node.cap.kind x.node.cap.base x.node.cap.bits x.node.cap.rights x.node.cap.width x.node.cap.level x.node.cap.device z) (n:=l.length) (fun i _=>∀ j (h:j < l.length),j < i→lte x l[j]=Xc) o (fun k i _ f p ih=>?_) (fun k _ p=>?_) () (fun j _ A=>absurd A (Nat.not_lt_zero _))
 ·show Ret _ (Zfu (k+1) _ _ _ _ _ _ _ _ _ _ _ _ _ _ _);rw [ZiY,Xk,P4 (Z4 f)];refine Zc (Zu f _) ?_;simp only [Yx,d2,d4,d8,P2,d6,df,dg,dh,di,dj,dk,dl];rw [s82,Xd];refine Zo (fun g=>?_) fun g=>?_
  ·rw [ZS f o];refine ih () fun j q v=>?_;by_cases hji:j < i
   ·exact p j q hji
   ·have:j=i:=by omega
    subst this;rw [Xu] at g;exact g
  ·have:=c i (by omega) p fun _=>by rw [Xu,XK] at g;exact g
   rw [Xk] at this;exact this
 ·show Ret _ (Zfu (k+1) _ _ _ _ _ _ _ _ _ _ _ _ _ _ _);rw [ZiY,Xk,P3 (Z3 (Xr _))];have:=c l.length (Xr _) p fun h=>absurd h (U8 _);rw [Xk] at this;exact this
def s85 (l:List ZY) (h:Zyc l) (x:ZY) (a:x.node.path.length≤20):Ret (fun r=>∃ m,(m=l∨ZCL l x m)∧r=m.map Zi) (g85 (l.map Zi) x.core x.slot x.node.id.core x.node.id.op x.node.id.part (Ze x.node.path) x.node.cap.kind x.node.cap.base x.node.cap.bits x.node.cap.rights x.node.cap.width x.node.cap.level x.node.cap.device):=by
 rw [ZBs];refine Zb (ZLs l h x a) fun r b=>?_;rcases b with rfl | ⟨m,hm,rfl⟩
 ·exact Zo (fun _=>Zf ⟨l,.inl rfl,rfl⟩) fun h=>absurd rfl h
 ·exact Zo (fun h=>absurd h (by simp)) fun _=>Zf ⟨m,.inr hm,rfl⟩
structure ZpS (s:Yc) (i:Id) (c:Cap):Prop where
 src:ZD s=Xb
 id:Vx i=Xb
 cap:YH c=Xb
 ne:i≠s.id
 fresh:s.path.contains i=Xc
 room:s.path.length < 8
def ZdR (s:Yc) (i:Id) (c:Cap):Yc:=⟨i,s.path++[s.id],c⟩
def s88 (s:Yc) (j:s.path.length≤20) (i:Id) (c:Cap):Ret (fun r=>(∃ e:Int,e≠0∧r=(0,0,0,E0,0,0,0,0,0,0,Xc,e))∨(ZpS s i c∧r=(i.core,i.op,i.part,Ze (s.path++[s.id]),c.kind,c.base,c.bits,c.rights,c.width,c.level,c.device,0)))
  (g88 s.id.core s.id.op s.id.part (Ze s.path) s.cap.kind s.cap.base s.cap.bits s.cap.rights s.cap.width s.cap.level s.cap.device i.core i.op i.part c.kind c.base c.bits c.rights c.width c.level c.device):=by
 rw [Zzo,s61 s (by omega),Xd];refine Zo (fun _=>Zf (.inl ⟨1,by omega,rfl⟩)) fun a=>?_;rw [Zyb,Xd];refine Zo (fun _=>Zf (.inl ⟨1,by omega,rfl⟩)) fun b=>?_;rw [ZBg,Xd];refine Zo (fun _=>Zf (.inl ⟨1,by omega,rfl⟩)) fun d=>?_;refine Zo (fun _=>Zf (.inl ⟨1,by omega,rfl⟩)) fun f=>?_;rw [YV] at f;rw [s78 s.path (by omega),Xd];refine Zo (fun _=>Zf (.inl ⟨1,by omega,rfl⟩)) fun g=>?_;refine Zo (fun _=>Zf (.inl ⟨9,by omega,rfl⟩)) fun h=>?_;rw [s76 s.path (by omega),Xd];refine Zl (ZV (by rw [ZX];simp;omega) (by omega)) (Zf (.inr ⟨?_,?_⟩))
 ·simp only [Xu,XK] at a b d;simp only [XE] at g;have k:=Zki a;simp only [CQ,ZX] at h;exact ⟨a,b,d,f,g,by omega⟩
 ·simp [Ze,idc]
def ZvZ {a b:Int} (f:0≤b) (g:b≤62) (d:0≤a) (e:a*2^b.toNat < 2^63):P1 .shl .i64 a b=a*2^b.toNat:=by
 have c:min b.toNat IntKind.i64.bits=b.toNat:=by
  have:IntKind.i64.bits=64:=rfl;omega
 simp only [P1,c];have h:=Yn b.toNat;have:0≤a*2^b.toNat:=Int.mul_nonneg d (by omega);rw [YK (by omega) e]
def ZJv (a b:Int):Ret (fun r=>∃ k q:Int,r=(q*2^k.toNat,k)∧6≤k∧k≤16∧0≤q∧q < 2^(16-k).toNat) (ZEX a b):=by
 rw [Zut];refine Zb (place b 11 (by omega) (by omega)) fun x s=>?_;obtain ⟨k,d⟩:∃ k,k=6+x:=⟨_,rfl⟩;have f:P1 .add .i64 6 x=k:=by rw [JE (by omega) (by omega),d]
 have g:P1 .sub .i64 16 k=16-k:=Ze0 (by omega) (by omega);have h:Xi .u64 (16-k)=16-k:=Jc (by omega) (by omega);have i:Xi .u64 k=k:=Jc (by omega) (by omega)
 have j:(2:Int)^(16-k).toNat < 2^62:=by
  have:=ZgF (m:=(16-k).toNat) (n:=16) (by omega);have e:(2:Int)^16=65536:=by decide
  have e:(2:Int)^62=4611686018427387904:=by decide
  omega
 have l:=Yn (16-k).toNat;rw [f,g,h,i,Zyr (by omega)];refine Zl (by omega) (Zb (place a _ (by omega) j) fun q c=>Zl (by omega) (Zf ⟨k,q,?_,by omega,by omega,c.1,c.2⟩))
 have o:q*2^k.toNat < 2^63:=by
  have p:q*2^k.toNat≤2^(16-k).toNat*2^k.toNat:=U9 (by omega) (by have:=Yn k.toNat;omega);rw [← Int.pow_add,show (16-k).toNat+k.toNat=16 by omega] at p;have e:(2:Int)^16=65536:=by decide
  have e:(2:Int)^63=9223372036854775808:=by decide
  omega
 rw [ZvZ (by omega) (by omega) c.1 o]
def s83 (a b:Int):Ret (fun r=>∃ c:Cap,r=Zx8 c∧YH c=Xb) (g83 a b):=by
 rw [Zz1];refine Zb (ZJv a b) fun r ⟨k,q,d,l,m,f,n⟩=>?_;subst d;refine Zf ⟨⟨1,q*2^k.toNat,k,7,0,0,Xc⟩,rfl,?_⟩
 have g:(q+1)*2^k.toNat≤65536:=by
  have h:(q+1)*2^k.toNat≤2^(16-k).toNat*2^k.toNat:=U9 (by omega) (by have:=Yn k.toNat;omega);rw [← Int.pow_add,show (16-k).toNat+k.toNat=16 by omega] at h;have e:(2:Int)^16=65536:=by decide
  omega
 rw [Int.add_mul,Int.one_mul] at g;have i:0≤q*2^k.toNat:=Int.mul_nonneg f (by have:=Yn k.toNat;omega);have j:q*2^k.toNat % 2^k.toNat=0:=Int.mul_emod_left ..;simp [YH,Wx,V3,i,j];omega
def Zth (c:Cap) (obj bits a b off cnt:Int):∃ cs:List Cap,Zaj c obj bits a b off cnt=cs.map ZrA∧(cs.length:Int)≤max 0 cnt:=by
 unfold Zaj;split
 ·refine ⟨(Ue cnt.toNat).map fun (j:Nat)=>⟨obj,c.base+off+(j:Int)*2^bits.toNat,bits,c.rights,if obj=3 then b else 0,if obj=3 then a else 0,c.device⟩,?_,by simp;omega⟩;rw [List.map_map];rfl
 ·exact ⟨[],rfl,by simp;omega⟩
def l84 (a:List V→Option Bool) (l:List ZY) (j:l.length < 2^63) (cs:List Cap) (m i:Nat) (e:i < cs.length) (f:Ret (fun _=>True) (a [.l (l.map Zi),.l (cs.map ZrA),.i (ZlC l.length m),.i (P1 .add .i64 (i:Int) 1)])) :
  Ret (fun _=>True) (Zd2 a Zr (l.map Zi) (cs.map ZrA) (ZlC l.length m) (i:Int) 0):=by
 refine K3 (P:=fun _=>True) (F:=fun c (_:Unit) z=>Zd2 a c (l.map Zi) (cs.map ZrA) (ZlC l.length m) (i:Int) z) (n:=l.length) (fun _ _=>True) j (fun c t _ g _ h=>?_) (fun c _ _=>?_) () trivial
 ·show Ret _ (Zd2 _ (c+1) _ _ _ _ _);rw [Zms,Xk,P4 (Z4 g)];refine Zc (Zu g _) ?_;simp only [Yx,d2,d4,d8,P2,d6,df,dg,dh,di,dj,dk,dl];have b:Ret (fun _=>True) (Zd2 a c (l.map Zi) (cs.map ZrA) (ZlC l.length m) (i:Int) (P1 .add .i64 (t:Int) 1)):=by rw [ZS g j];exact h () trivial
  refine Zo (fun d=>?_) fun d=>?_
  ·rw [ZmJ,P5] at d;refine Zo (fun k=>?_) fun k=>?_
   ·rw [ZtS,Xd];refine Zc (congrArg (fun z=>Zj (l.map Zi) z _ _) (Zku d)) ?_;refine Zc (Zu d _) ?_;simp only [Yx,d2,d4,d8,P2,d6,df,dg,dh,di,dj,dk,dl];rw [ZtS,Xd,ZKB,Xd,Xd];refine Zc (ZbG e _) ?_;simp only [Zx8];rw [ZtS,Xd,ZHs,Xd];exact Zo (fun _=>Zo (fun _=>Zf trivial) fun _=>b) fun _=>b
   ·rw [ZtS,Xd];refine Zc (ZbG e _) ?_;simp only [Zx8];rw [ZtS,Xd,ZHs,Xd];exact Zo (fun _=>Zf trivial) fun _=>b
  ·rw [ZtS,Xd];refine Zc (ZbG e _) ?_;simp only [Zx8];rw [ZtS,Xd,ZHs,Xd];exact Zo (fun _=>Zf trivial) fun _=>b
 ·show Ret _ (Zd2 _ (c+1) _ _ _ _ _);rw [Zms,Xk,P3 (Z3 (Xr _))];exact f
def s84 (l:List ZY) (b:l.length < 2^63) (j:Id) (cs:List Cap) (c:cs.length < 2^63):Ret (fun _=>True) (g84 (l.map Zi) j.core j.op j.part (cs.map ZrA)):=by
 rw [ZBh,ZIH l b j,Xd];generalize hm:Zht (idE j) l=m;refine K3 (F:=fun k (_:Unit) z=>ZoN k (l.map Zi) (cs.map ZrA) (ZlC l.length m) z) (n:=cs.length) (fun _ _=>True) c (fun k i _ a _ ih=>?_) (fun k _ _=>?_) () trivial
 ·show Ret _ (ZoN (k+1) _ _ _ _);rw [ZlN,Xk,P4 (Z4 a)];exact l84 _ l b cs m i a (by rw [ZS a c];exact ih () trivial)
 ·show Ret _ (ZoN (k+1) _ _ _ _);rw [ZlN,Xk,P3 (Z3 (Xr _))];exact Zf trivial
structure EOk (e:ZY):Prop where
 c0:0≤e.core
 c1:e.core < 4
 s0:0≤e.slot
 s1:e.slot < 16
 ic:e.node.id.core=e.core
 o1:1≤e.node.id.op
 o2:e.node.id.op≤40
 p0:0≤e.node.id.part
 p1:e.node.id.part < 3
 ok:ZD e.node=Xb
structure FOk (l:List ZY) (n:Nat):Prop where
 len:l.length≤n
 all:∀ e∈l,EOk e
 asc:l.Pairwise fun a b=>lte a b=Xb
def YD {n:Yc} (h:ZD n=Xb):Vx n.id=Xb∧YH n.cap=Xb∧n.path.length≤8∧(Ue n.path.length).all (VG n)=Xb:=by
 simp only [ZD,Xj,P5] at h;exact ⟨h.1.1.1,h.1.1.2,h.1.2,h.2⟩
def FOk.few {l:List ZY} {n:Nat} (h:FOk l n) (b:n≤100):Zyc l:=⟨by have:=h.len;omega,fun e a=>by have:=(YD (h.all e a).ok).2.2.1;omega⟩
def ZiI {a b:ZY} : lte a b=Xb↔(a.node.id.core < b.node.id.core∨(a.node.id.core=b.node.id.core∧(a.node.id.op < b.node.id.op∨(a.node.id.op=b.node.id.op∧a.node.id.part < b.node.id.part)))):=by simp [lte,Zyg,Zyx]
def ZqU {a b c:ZY} (d:lte a b=Xb) (e:lte b c=Xb):lte a c=Xb:=by
 rw [ZiI] at *; omega
def Zqu {a b:ZY} (h:lte a b=Xc) (c:a.node.id≠b.node.id):lte b a=Xb:=by
 rw [← XE,ZiI] at h;rw [ZiI];have:¬ (a.node.id.core=b.node.id.core∧a.node.id.op=b.node.id.op∧a.node.id.part=b.node.id.part):=fun ⟨d,e,f⟩=>c (by cases g:a.node.id;cases hb:b.node.id;simp_all);omega
def Zsk {l m:List ZY} {x:ZY} (h:l.Pairwise fun a b=>lte a b=Xb) (c:ZCL l x m):m.Pairwise fun a b=>lte a b=Xb:=by
 obtain ⟨i,t,g,n,e,_,rfl⟩:=c
 have o:∀ j (d:j < l.length),i≤j→lte x l[j]=Xb:=by
  intro j d q;have p:lte x (l[i]'(by omega))=Xb:=n (by omega);by_cases hji:j=i
  ·subst hji;exact p
  ·exact ZqU p (TW.1 h i j (by omega) d (by omega))
 rw [List.pairwise_append,List.pairwise_append];refine ⟨⟨h.take,List.pairwise_singleton ..,fun a c b f=>?_⟩,h.drop,fun a c b f=>?_⟩
 ·rw [Uh] at f;subst f;obtain ⟨j,d,rfl⟩:=Uv c;rw [X5] at d;rw [TB];refine Zqu (g j (by omega) (by omega)) fun r=>?_;rw [TD] at e;have:=e _ (Xq (show j < l.length by omega));rw [idE,P5] at this;exact this r.symm
 ·obtain ⟨k,s,rfl⟩:=Uv f;rw [List.length_drop] at s;rw [List.getElem_drop];rw [Xz,Uh] at c;rcases c with c | rfl
  ·obtain ⟨j,d,rfl⟩:=Uv c;rw [X5] at d;rw [TB];exact TW.1 h j (i+k) (by omega) (by omega) (by omega)
  ·exact o (i+k) (by omega) (by omega)
def Zqe {l m:List ZY} {x:ZY} {n:Nat} (h:FOk l n) (d:EOk x) (c:m=l∨ZCL l x m):FOk m (n+1):=by
 rcases c with rfl | c
 ·exact ⟨by have:=h.len;omega,h.all,h.asc⟩
 ·have b:=Zsk h.asc c;obtain ⟨i,f,_,_,_,_,rfl⟩:=c;refine ⟨by have:=h.len;simp;omega,fun e a=>?_,b⟩;simp only [Xz,Uh] at a;rcases a with (a | rfl) | a
  ·exact h.all e (XS a)
  ·exact d
  ·exact h.all e (X4 a)
def Zpf (i:Id) (c:Cap) (a:Vx i=Xb) (b:YH c=Xb):ZD ⟨i,[],c⟩=Xb:=by simp [ZD,a,b]
def Zno {s:Yc} {i:Id} {c:Cap} (h:ZpS s i c):ZD (ZdR s i c)=Xb:=by
 obtain ⟨k,n,o,a⟩:=YD h.src;have p:=h.room;simp only [ZD,ZdR,Xj,P5,h.id,h.cap,true_and,Xf,Xv,Xm];refine ⟨by omega,?_⟩;rw [Xo] at a ⊢;intro j l;rw [UC] at l;by_cases hjl:j < s.path.length
 ·have:=a j (UC.2 hjl);simp only [VG,Xp hjl] at this;simp only [VG,List.getElem?_append_left hjl,Xp hjl,TY (Nat.le_of_lt hjl)];simp only [Xj,P5] at this ⊢;refine ⟨⟨this.1.1,fun b=>?_⟩,this.2⟩;have f:=h.fresh;rw [← b] at f;simp at f
 ·have d:j=s.path.length:=by omega
  subst d;simp only [VG,List.getElem?_append_right (Xr _),Nat.sub_self,List.getElem?_cons_zero,Tf];simp only [Xj,P5];refine ⟨⟨k,fun b=>h.ne b.symm⟩,?_⟩;rw [Xu,← XE,UZ];intro m;obtain ⟨t,g,e⟩:=Uv m;have:=a t (UC.2 g);simp only [VG,Xp g,e] at this;simp at this
def l31 (a:Yc) (u:a.path.length≤20) (t:Bool) (op b slot:Int) (f:0≤b) (g:b < 4) (v:0≤slot) (w:slot < 8) (x:1≤op) (y:op≤40) (cs:List Cap) (A:cs.length≤3) (l:List ZY) (n:Nat) (H:n≤60) (h:FOk l n) :
  Ret (fun r=>∃ m,FOk m (n+3)∧r=m.map Zi) (Zj1 Zr (l.map Zi) op b slot a.id.core a.id.op a.id.part (Ze a.path) a.cap.kind a.cap.base a.cap.bits a.cap.rights a.cap.width a.cap.level a.cap.device (cs.map ZrA) 0):=by
 refine K3 (F:=fun k (s:LL) z=>Zj1 k s op b slot a.id.core a.id.op a.id.part (Ze a.path) a.cap.kind a.cap.base a.cap.bits a.cap.rights a.cap.width a.cap.level a.cap.device (cs.map ZrA) z) (n:=cs.length) (fun i s=>∃ m,FOk m (n+i)∧s=m.map Zi) (by omega) (fun k i s j o ih=>?_) (fun k s o=>?_) _ ⟨l,h,rfl⟩
 ·obtain ⟨m,c,rfl⟩:=o;show Ret _ (Zj1 (k+1) _ _ _ _ _ _ _ _ _ _ _ _ _ _ _ _ _);rw [ZlK,Xk,P4 (Z4 j)];refine Zc (ZbG j _) ?_;simp only [Zx8];refine Zb (s88 a u ⟨b,op,(i:Int)⟩ cs[i]) fun r p=>?_;rcases p with ⟨e,he,rfl⟩ | ⟨hk,rfl⟩
  ·refine Zo (fun _=>Zf ⟨m,⟨by have:=c.len;omega,c.all,c.asc⟩,rfl⟩) fun d=>?_;simp only [CQ] at d;exact absurd d (by omega)
  ·refine Zo (fun d=>absurd d (by simp [P0])) fun _=>?_;have C:=YD (Zno hk);have D:EOk ⟨b,slot+i,ZdR a ⟨b,op,(i:Int)⟩ cs[i]⟩:=⟨f,g,by show 0≤slot+i;omega,by show slot+i < 16;omega,rfl,x,y,by show (0:Int)≤i;omega,by show (i:Int) < 3;omega,Zno hk⟩;have E:P1 .add .i64 slot (i:Int)=slot+i:=JE (by omega) (by omega);rw [E];refine Zb (s85 m (c.few (by omega)) ⟨b,slot+i,ZdR a ⟨b,op,(i:Int)⟩ cs[i]⟩ (by have:=C.2.2.1;show (ZdR a ⟨b,op,(i:Int)⟩ cs[i]).path.length≤20;omega)) fun r ⟨G,q,p⟩=>?_;subst p;rw [ZS j (by omega)];exact ih _ ⟨G,Zqe c D q,rfl⟩
 ·obtain ⟨m,c,rfl⟩:=o;show Ret _ (Zj1 (k+1) _ _ _ _ _ _ _ _ _ _ _ _ _ _ _ _ _);rw [ZlK,Xk,P3 (Z3 (Xr _))];exact Zf ⟨m,⟨by have:=c.len;omega,c.all,c.asc⟩,rfl⟩
def ZIZ (l:List ZY) (n:Nat) (x:n≤60) (h:FOk l n) (a slot op base bits:Int) (e:0≤a) (f:a < 4) (g:0≤slot) (p:slot < 8) (q:1≤op) (s:op≤40) :
    Ret (fun r=>∃ m,FOk m (n+3)∧r=m.map Zi) ((g83 base bits).bind fun d=>
 (g84 (l.map Zi) 0 0 0 (E0++[[I d.1,I d.2.1,I d.2.2.1,I d.2.2.2.1,I (d4 d).1,I (d4 d).2.1,B d.2.2.2.2.2.2]])).bind fun (i:Bool)=>
 if i=Xb then Xa (l.map Zi) else
 (g85 (l.map Zi) a slot a op 0 E0 d.1 d.2.1 d.2.2.1 d.2.2.2.1 (d4 d).1 (d4 d).2.1 d.2.2.2.2.2.2).bind fun (j:LL)=>Xa (j)):=by
  refine Zb (s83 base bits) fun r ⟨c,k,t⟩=>?_;subst k;have y:=h.len;refine Zb (s84 l (by omega) ⟨0,0,0⟩ [c] (by simp)) fun b _=>?_;refine Zo (fun _=>Zf ⟨l,⟨by omega,h.all,h.asc⟩,rfl⟩) fun _=>?_;have u:Vx ⟨a,op,0⟩=Xb:=by simp [Vx];omega
  have v:EOk ⟨a,slot,⟨⟨a,op,0⟩,[],c⟩⟩:=⟨e,f,g,by show slot < 16;omega,rfl,q,s,Int.le_refl _,by show (0:Int) < 3;omega,Zpf _ _ u t⟩;refine Zb (s85 l (h.few (by omega)) ⟨a,slot,⟨⟨a,op,0⟩,[],c⟩⟩ (by simp)) fun r ⟨w,o,k⟩=>?_;subst k;have:=Zqe h v o;exact Zf ⟨w,⟨by have:=this.len;omega,this.all,this.asc⟩,rfl⟩
def s31 (l:List ZY) (n:Nat) (y:n≤60) (h:FOk l n) (t u:Bool) (v j slot k base bits f a op:Int) (z:1≤op) (A:op≤40) :
  Ret (fun r=>∃ m,FOk m (n+3)∧r=m.map Zi) (g31 (l.map Zi) t v j slot k base bits f a u op):=by
 have Z:=h.len;rw [ZCT];refine Zb (place j 4 (by omega) (by omega)) fun c o=>Zb (place slot 8 (by omega) (by omega)) fun s p=>?_;refine Zo (fun _=>ZIZ l n y h c s op base bits o.1 o.2 p.1 p.2 z A) fun _=>?_;refine Zo (fun _=>ZIZ l n y h c s op base bits o.1 o.2 p.1 p.2 z A) fun N=>?_;simp only [CQ,Xk] at N;rw [Xk];refine Zb (place v _ (by omega) (by omega)) fun i O=>?_;have w:i.toNat < l.length:=by omega
 refine Vs O.1 w ?_;simp only [Yx,d2,d4,d8,P2,d6,df,dg,dh,di,dj,dk,dl];have M:=h.all _ (Xq w);have Q:=YD M.ok;generalize l[i.toNat]=e at M Q;refine Zb (place a 8 (by omega) (by omega)) fun C _=>?_;rw [s86,Xd];refine Zo (fun _=>?_) fun _=>?_
 ·refine Zb (place k 6 (by omega) (by omega)) fun g D=>Zb (place bits 10 (by omega) (by omega)) fun d R=>?_;have S:P1 .add .i64 6 d=6+d:=JE (by omega) (by omega);have T:P1 .sub .i64 (P1 .add .i64 1 g) 1=g:=by rw [JE (by omega) (by omega),Ze0 (by omega) (by omega)];omega
  rw [S,T];refine ZcM (l:=[6+d,12,12,6,10,16]) D.1 (by simp;omega) ?_
  have U:∀ x∈[6+d,12,12,6,10,16],0≤x∧x≤16:=by
   intro x W;simp only [Xs,Tm,or_false] at W;omega
  have E:=U _ (Xq (show g.toNat < [6+d,12,12,6,10,16].length by simp;omega));generalize [6+d,12,12,6,10,16][g.toNat]'(by simp;omega)=r38 at E;refine Zb (place a 2 (by omega) (by omega)) fun G _=>Zb (place base 8 (by omega) (by omega)) fun H _=>?_;refine Zl (by rw [Jc (by omega) (by omega)];omega) (Zb (place f 3 (by omega) (by omega)) fun q X=>?_);rw [s87,Xd];refine Zo (fun _=>Zf ⟨l,⟨by omega,h.all,h.asc⟩,rfl⟩) fun _=>?_;obtain ⟨cs,J,L⟩:=Zth ⟨e.node.cap.kind,e.node.cap.base,e.node.cap.bits,e.node.cap.rights,e.node.cap.width,e.node.cap.level,e.node.cap.device⟩ (P1 .add .i64 1 g) r38 G 32 (P1 .shl .i64 H (Xi .u64 r38)) (P1 .add .i64 1 q);rw [J];have Y:P1 .add .i64 1 q=1+q:=JE (by omega) (by omega);rw [Y] at L;refine Zb (s84 l (by omega) e.node.id cs (by omega)) fun b _=>?_;refine Zo (fun _=>Zf ⟨l,⟨by omega,h.all,h.asc⟩,rfl⟩) fun _=>?_;exact l31 e.node (by omega) Xb op c s o.1 o.2 p.1 p.2 z A cs (by omega) l n y h
 ·exact l31 e.node (by omega) Xb op c s o.1 o.2 p.1 p.2 z A [⟨e.node.cap.kind,e.node.cap.base,e.node.cap.bits,P1 .and .i64 e.node.cap.rights C,e.node.cap.width,e.node.cap.level,e.node.cap.device⟩] (by simp) l n y h
def ZxT (s:Zxa):Bool×Int×Int×Int×Int×Int×Int×Int×Int×Bool:=(s.root,s.src,s.core,s.slot,s.kind,s.base,s.bits,s.count,s.rights,s.copy)
def Zn0 {γ:Type} {l:List Zxa} {i:Nat} (h:i < l.length) (k:(Bool×Int×Int×Int×Int×Int×Int×Int×Int×Bool)→Option γ):Zj (l.map Zck) (i:Int) [.bool,.int .i64,.int .i64,.int .i64,.int .i64,.int .i64,.int .i64,.int .i64,.int .i64,.bool] k=k (ZxT l[i]):=Y3 (f:=Zck) (sh:=[.bool,.int .i64,.int .i64,.int .i64,.int .i64,.int .i64,.int .i64,.int .i64,.int .i64,.bool]) (v:=ZxT) (fun _=>rfl) h k
def s11 (l:List Zxa) (h:l.length < 2^63):Ret (fun r=>∃ m,FOk m 30∧r=m.map Zi) (g11 (l.map Zck)):=by
 rw [ZyO]
 have f:∀ (d i a:Nat) (m:List ZY),i+d=41→d < a→FOk m 30→Ret (fun r=>∃ m,FOk m 30∧r=m.map Zi) (Zsz a (l.map Zck) (m.map Zi) (i:Int)):=by
  intro d
  induction d with
  | zero =>
   intro i a m j k b;obtain ⟨q,rfl⟩:∃ q,a=q+1:=⟨a-1,by omega⟩;rw [ZmG];refine Zo (fun _=>?_) fun _=>Zf ⟨m,b,rfl⟩;rw [P3 (by simp only [CQ];omega)];exact Zf ⟨m,b,rfl⟩
  | succ d ih =>
   intro i a m j k b;obtain ⟨q,rfl⟩:∃ q,a=q+1:=⟨a-1,by omega⟩;rw [ZmG];refine Zo (fun n=>?_) fun _=>Zf ⟨m,b,rfl⟩;refine Zo (fun o=>?_) fun _=>Zf ⟨m,b,rfl⟩;refine Zo (fun p=>?_) fun _=>Zf ⟨m,b,rfl⟩;simp only [CQ,Xk] at n o p;have c:i < l.length:=by omega
   refine Zc (Zn0 c _) ?_;simp only [ZxT];have e:P1 .add .i64 (i:Int) 1=((i+1:Nat):Int):=ZS c h;rw [e];refine Zb (s31 m 27 (by omega) ⟨by omega,b.all,b.asc⟩ _ _ _ _ _ _ _ _ _ _ _ (by omega) (by omega)) fun r ⟨s,g,t⟩=>?_;subst t;exact ih (i+1) q s (by omega) (by omega) g
 exact f 41 0 Zr [] rfl (by have:=@Yi 41 (by omega);omega) ⟨by simp,by simp,List.Pairwise.nil⟩
structure SOk (l:List ZY) (s:List YN):Prop where
 len:s.length=12
 spot:∀ t (h:t < s.length),s[t].op=0∧s[t].lock=zid∧(s[t].node=Z5∨∃ e∈l,e.slot=(t:Int)∧s[t].node=e.node)
def SOk.all {l:List ZY} {s:List YN} (h:SOk l s):∀ x∈s,x.op=0∧x.lock=zid∧(x.node=Z5∨∃ e∈l,x.node=e.node):=by
 intro x a;obtain ⟨t,b,rfl⟩:=Uv a;obtain ⟨c,d,f⟩:=h.spot t b;exact ⟨c,d,f.imp id fun ⟨e,g,_,i⟩=>⟨e,g,i⟩⟩
def SOk.few {l:List ZY} {s:List YN} {n:Nat} (h:SOk l s) (a:FOk l n):ZIJ s:=by
 refine ⟨by have:=h.len;omega,fun x b=>?_⟩;rcases (h.all x b).2.2 with e | ⟨e,he,hne⟩
 ·rw [e];simp [Z5]
 ·have:=(YD (a.all e he).ok).2.2.1;rw [hne];omega
def s80 (l:List ZY) (n:Nat) (q:n≤60) (j:FOk l n) (c:Int):Ret (fun r=>∃ s,SOk l s∧r=s.map Zv) (g80 (l.map Zi) c):=by
 have u:=j.len;rw [ZB5];refine Zl (by decide) (Zl (by decide) (Zl (by decide) ?_));refine K3 (F:=fun k (s:LL) z=>ZgD k (l.map Zi) c s z) (n:=l.length) (fun i s=>∃ m,SOk l m∧s=m.map Zv) (by omega) (fun k i s a e ih=>?_) (fun k s e=>?_) _ ⟨List.replicate 12 ⟨Z5,0,zid⟩,⟨rfl,fun t f=>?_⟩,rfl⟩
 ·obtain ⟨s,b,rfl⟩:=e;show Ret _ (ZgD (k+1) _ _ _ _);rw [Zm8,Xk,P4 (Z4 a)];refine Zc (Zu a _) ?_;simp only [Yx,d2,d4,d8,P2,d6,df,dg,dh,di,dj,dk,dl];have d:Ret (fun r=>∃ s,SOk l s∧r=s.map Zv) (ZgD k (l.map Zi) c (s.map Zv) (P1 .add .i64 (i:Int) 1)):=by rw [ZS a (by omega)];exact ih _ ⟨s,b,rfl⟩
  refine Zo (fun _=>?_) fun _=>d;refine Zc (Zu a _) ?_;simp only [Yx,d2,d4,d8,P2,d6,df,dg,dh,di,dj,dk,dl];refine Zo (fun p=>?_) fun _=>d;simp only [CQ] at p;refine Zc (Zu a _) ?_;simp only [Yx,d2,d4,d8,P2,d6,df,dg,dh,di,dj,dk,dl];refine Zc (Zu a _) ?_;simp only [Yx,d2,d4,d8,P2,d6,df,dg,dh,di,dj,dk,dl];have o:=j.all _ (Xq a);have v:=(YD o.ok).2.2.1;rw [s25 l[i].node (by omega),Xd];have w:=o.s0;have g:=b.len;refine Zl (by omega) (Zl (by rw [Xk];omega) (Zl (by omega) (Zl (by rw [Xk];omega) ?_)));rw [ZS a (by omega)];refine ih _ ⟨s.modify l[i].slot.toNat (ZHo l[i].node),⟨by rw [Tn];exact g,fun t f=>?_⟩,Zsi s _ l[i].node⟩;rw [Tn] at f;rw [List.getElem_modify];have h:=b.spot t f;split
  ·exact ⟨h.1,h.2.1,.inr ⟨l[i],Xq a,by omega,rfl⟩⟩
  ·exact h
 ·obtain ⟨s,b,rfl⟩:=e;show Ret _ (ZgD (k+1) _ _ _ _);rw [Zm8,Xk,P3 (Z3 (Xr _))];exact Zf ⟨s,b,rfl⟩
 ·rw [List.getElem_replicate];exact ⟨rfl,rfl,.inl rfl⟩
def ZhA {b:Type} (a:b→b→Bool) (l:List b):Ve a l=Xb↔∀ j (h:j+1 < l.length),a l[j] l[j+1]=Xb:=by
 rw [Ve,Xo];constructor
 ·intro h j c;have:=h (j+1) (by rw [Ta];omega);rw [KS a c] at this;exact this
 ·intro h i d;rw [Ta] at d
  match i with
  | 0 => rfl
  | j + 1 => rw [KS a (by omega)]; exact h j (by omega)
def Zmm {b:Type} {c:b→b→Bool} {l:List b} {a:b} (h:Ve c l=Xb) (d:∀ h:0 < l.length,c (l[l.length-1]'(by omega)) a=Xb):Ve c (l++[a])=Xb:=by
 rw [ZhA] at h ⊢;intro j f;rw [Xf,Xv,Xm] at f;by_cases hjl:j+1 < l.length
 ·rw [To (by omega),To hjl];exact h j hjl
 ·have e:j=l.length-1:=by omega
  subst e;rw [To (by omega),TX (by omega)];have:=d (by omega);simpa using this
def Zso {c:Type} {d:c→c→Bool} {l:List c} (h:l.Pairwise fun a b=>d a b=Xb):Ve d l=Xb:=by
 rw [ZhA];intro j e;exact TW.1 h j (j+1) (by omega) e (by omega)
def K1 {b:Type} (f:b→List AV) (l:List b) (a:b):l.map f++(E0++[f a])=(l++[a]).map f:=by simp
def Y0 {c:Type} {P:c→Prop} {l:List c} {a:c} (h:∀ x∈l,P x) (d:P a):∀ x∈l++[a],P x:=by
 intro x b;simp only [Xz,Uh] at b;rcases b with b | rfl
 ·exact h x b
 ·exact d
def YU {σ γ:Type} {P:γ→Prop} {F:Nat→σ→Int→Option γ} (n:Nat) (J:Nat→σ→Prop) (d:n < 1000)
  (a:∀ (k i:Nat) (s:σ),i≤n→J i s→(i < n→∀ c,J (i+1) c→Ret P (F k c ((i+1:Nat):Int)))→Ret P (F (k+1) s (i:Int))) (s:σ) (h:J 0 s):Ret P (F Zr s 0):=by
 refine K3 (F:=F) (n:=n) J (by omega) (fun k i s e b ih=>a k i s (by omega) b fun _=>ih) (fun k s b=>a k n s (Xr _) b fun h=>absurd h (U8 _)) s h
def Zfa {i n:Nat} (h:i≤n) (a:n < 1000):P1 .add .i64 (i:Int) 1=((i+1:Nat):Int):=by
 rw [JE (by omega) (by omega)];omega
def Rng (z:Int):Prop:=-(2^63:Int)≤z∧z < 2^63
def Yu (c:Call):List Int:=[c.kind,c.slot,c.dest,c.core,c.mask,c.object,c.bits,c.level,c.offset,c.count,c.index,c.addr]
def RL (l:List Int):Prop:=∀ x∈l,Rng x
def ZfM (s:JD):Prop:=∀ q∈s.pending,∀ z∈Yu q.call,Rng z
def ZeZ {z:Int} (a:0≤z) (b:z < 1000000):Rng z:=⟨by omega,by omega⟩
def ZqN (l:List Int) (z:Int):Ret (fun v=>RL l→Rng v) (g21 (Zd l) z):=by
 rw [Zuf];refine Zo (fun _=>Zf fun _=>⟨by decide,by decide⟩) fun b=>Zo (fun _=>Zf fun _=>⟨by decide,by decide⟩) fun c=>?_;simp only [CQ,ZT] at b c;have e:z=((z.toNat:Nat):Int):=by omega
 have a:z.toNat < l.length:=by omega
 have:=Z2 (γ:=Int) a (fun r=>Xa r);rw [← e] at this;exact Zc this (Zf fun h=>h _ (Xq a))
structure ZEr (i:Id):Prop where
 c0:0≤i.core
 c1:i.core < 4
 o0:1≤i.op
 o1:i.op≤20
 p:i.part=0
def ZEr.ok {i:Id} (h:ZEr i):Za4 i=Xb:=by
 obtain ⟨a,b,c,d,e⟩:=h;simp only [Za4,Vx,Xj,P5];omega
def s22 (x:Int):Ret (fun r=>∃ i:Id,r=(i.core,i.op,i.part)∧ZEr i) (g22 x):=by
 rw [ZyD];refine Zb (place x 4 (by omega) (by omega)) fun a c=>Zl (by omega) (Zb (place _ 20 (by omega) (by omega)) fun b d=>?_);have e:P1 .add .i64 1 b=1+b:=JE (by omega) (by omega);rw [e];exact Zf ⟨⟨a,1+b,0⟩,rfl,⟨c.1,c.2,by show 1≤1+b;omega,by show 1+b≤20;omega,rfl⟩⟩
def s24 (l:List Int) (z:Int) (b:0≤z):Ret (fun r=>∃ m:List Int,r=Zd m∧m.length≤l.length∧(RL l→RL m)) (g24 (Zd l) z):=by
 rw [ZCx,ZT];refine Zo (fun _=>Zf ⟨[],rfl,by simp,fun _ x a=>by cases a⟩) fun h=>?_;simp only [CQ] at h;refine Zl b (Zl (by omega) (Zf ⟨l.drop z.toNat,?_,by simp,fun h x a=>h x (X4 a)⟩));exact (Uy ..).symm
def ZnK {γ:Type} {P:γ→Prop} {a b z:Int} {k:Int→Option γ} (c:0≤z) (h:z < 2) (d:∀ x,x=a∨x=b→Ret P (k x)):Ret P (Zj ((E0++[[I a]])++[[I b]]) z [.int .i64] k):=
 ZcM (l:=[a,b]) c (by simp;omega) (d _ (by rcases (by omega:z=0∨z=1) with rfl | rfl<;>simp))
def Zrj:K0 Z5 Z5=Xb:=by kernel_rfl
def s23 (l:List Int) (n:Yc) (C:ZD n=Xb) (D:n.path.length≤20):Ret (fun r=>∃ q:Req,r=ZrE q∧(q.src.path.length≤20∧q.call.dest < 8)∧Kl q=Xb∧(RL l→∀ z∈Yu q.call,Rng z)) (g23 (Zd l) n.id.core n.id.op n.id.part (Ze n.path) n.cap.kind n.cap.base n.cap.bits n.cap.rights n.cap.width n.cap.level n.cap.device):=by
 rw [Zzt];refine Zb (ZA l 0) fun _ _=>Zb (s22 _) fun r ⟨i,E,d⟩=>?_;subst E;refine Zb (ZA l 1) fun _ _=>Zb (place _ 3 (by omega) (by omega)) fun G H=>?_;refine Zb (ZA l 2) fun _ _=>Zb (place _ 2 (by omega) (by omega)) fun _ u=>?_;refine ZnK u.1 u.2 fun w v=>?_;rw [s25 n (by omega),Xd];refine Zb (ZA l 3) fun _ _=>Zb (place _ 6 (by omega) (by omega)) fun kd J=>?_;refine Zb (ZA l 4) fun _ _=>Zb (place _ 8 (by omega) (by omega)) fun L W=>?_;refine Zb (ZA l 5) fun _ _=>Zb (place _ 8 (by omega) (by omega)) fun M e=>?_;refine Zb (ZA l 6) fun _ _=>Zb (place _ 4 (by omega) (by omega)) fun N X=>?_;refine Zb (ZA l 7) fun _ _=>Zb (place _ 8 (by omega) (by omega)) fun O Y=>?_;refine Zb (ZA l 8) fun _ _=>Zb (place _ 6 (by omega) (by omega)) fun g Z=>?_;refine Zb (ZA l 9) fun _ _=>Zb (place _ 3 (by omega) (by omega)) fun h h9=>?_;refine Zb (ZA l 10) fun _ _=>Zb (place _ 2 (by omega) (by omega)) fun j Q=>?_;refine Zb (ZA l 11) fun _ _=>Zb (place _ 8 (by omega) (by omega)) fun b R=>Zl (by omega) ?_;refine Zb (ZA l 12) fun _ _=>Zb (place _ 3 (by omega) (by omega)) fun c S=>?_;refine Zb (ZqN l 13) fun k m=>Zb (ZqN l 14) fun o p=>?_;have T:P1 .add .i64 1 g=1+g:=JE (by omega) (by omega);have e9:P1 .add .i64 12 h=12+h:=JE (by omega) (by omega);have s:P1 .add .i64 1 c=1+c:=JE (by omega) (by omega);have t:P1 .shl .i64 b 12=b*4096:=ZvZ (by omega) (by omega) (by omega) (by show b*2^12 < 2^63;omega);rw [T,e9,t,s]
 have a:RL l→∀ z∈Yu ⟨1+kd,L,M,N,O,1+g,12+h,j,b*4096,1+c,k,o⟩,Rng z:=by
  intro x z y;simp only [Yu,Xs,Tm,or_false] at y;rcases y with rfl | rfl | rfl | rfl | rfl | rfl | rfl | rfl | rfl | rfl | rfl | rfl
  ·exact ZeZ (by omega) (by omega)
  ·exact ZeZ (by omega) (by omega)
  ·exact ZeZ (by omega) (by omega)
  ·exact ZeZ (by omega) (by omega)
  ·exact ZeZ (by omega) (by omega)
  ·exact ZeZ (by omega) (by omega)
  ·exact ZeZ (by omega) (by omega)
  ·exact ZeZ (by omega) (by omega)
  ·exact ZeZ (by omega) (by omega)
  ·exact ZeZ (by omega) (by omega)
  ·exact m x
  ·exact p x
 have U:P1 .add .i64 1 kd=1+kd:=JE (by omega) (by omega);rw [U];have A:Jo G=Xb:=by simp only [Jo,P5];omega
 refine Zo (fun f=>Zf ⟨⟨i,⟨_,_,_,_,_,_,_,_,_,_,_,_⟩,_,_,Z5⟩,rfl,⟨by simp [Z5],e.2⟩,?_,a⟩) fun f=>Zf ⟨⟨i,⟨_,_,_,_,_,_,_,_,_,_,_,_⟩,_,_,n⟩,rfl,⟨D,e.2⟩,?_,a⟩
 ·simp only [CQ] at f;simp only [Kl,d.ok,A,f,Zrj,Xj,P5,if_true,true_and,and_true];exact ⟨by omega,v⟩
 ·simp only [CQ] at f;simp only [Kl,d.ok,A,C,P3 f,Xj,P5,true_and,and_true];exact ⟨by omega,v⟩
structure Zoy (f:List ZY) (ss:List YN):Prop where
 len:ss.length=12
 spot:∀ t (h:t < ss.length),(0≤ss[t].op∧ss[t].op≤20)∧((ss[t].node=Z5∧ss[t].lock=zid)∨∃ e∈f,e.slot=(t:Int)∧ss[t].node=e.node∧(ss[t].lock=zid∨Za4 ss[t].lock=Xb))
def SOk.slIn {f:List ZY} {s:List YN} (h:SOk f s):Zoy f s:=⟨h.len,fun t c=>by
 obtain ⟨d,b,a⟩:=h.spot t c;refine ⟨by omega,?_⟩;rcases a with a | ⟨e,he,hs,hn⟩
 ·exact .inl ⟨a,b⟩
 ·exact .inr ⟨e,he,hs,hn,.inl b⟩⟩
def ZCJ {f:List ZY} {n:Nat} (g:FOk f n) {a b:ZY} (k:a∈f) (l:b∈f) (h:a.node.id=b.node.id):a=b:=by
 obtain ⟨i,c,rfl⟩:=Uv k;obtain ⟨j,d,rfl⟩:=Uv l;have e:=TW.1 g.asc;by_cases hij:i < j
 ·have:=e i j c d hij;rw [ZiI,h] at this;omega
 ·by_cases hji:j < i
  ·have:=e j i d c hji;rw [ZiI,h] at this;omega
  ·have:i=j:=by omega
   subst this;rfl
def Zl1 {f:List ZY} {n:Nat} (a:FOk f n) {e:ZY} (b:e∈f):e.node.id≠zid:=by
 intro h;have:=(a.all e b).o1;rw [h] at this;exact absurd this (by decide)
def Zr3 {f:List ZY} {n:Nat} {c:List YN} (d:FOk f n) (h:Zoy f c):KQ c=Xb:=by
 have q:=h.len;rw [KQ,Xj,P5,Xo];refine ⟨by omega,fun i k=>?_⟩;rw [Ta] at k;have b:i < c.length:=by omega
 obtain ⟨r,g⟩:=h.spot i b;rw [Xj,Jz _ b];refine ⟨?_,?_⟩
 ·rw [WH,Xj,P5];refine ⟨by omega,?_⟩;rcases g with ⟨e1,e2⟩ | ⟨e,he,_,e1,e2⟩
  ·rw [e1,e2,P4 (show Z5.id=zid from rfl),Zrj];rfl
  ·rw [e1,P3 (Zl1 d he),(d.all e he).ok,XP,XF,P5];exact e2
 ·unfold VJ;rw [Xp b];show (!((c.take i).any (ZhE c[i].node.id)))=Xb;rw [Xu,TD];intro x l;obtain ⟨j,m,rfl⟩:=Uv l;rw [X5] at m;rw [TB];have o:j < i:=by omega
  obtain ⟨_,p⟩:=h.spot j (by omega);rw [ZhE,XE,Bool.and_eq_false_iff];rcases p with ⟨e1,_⟩ | ⟨e,he,hs,e1,_⟩
  ·left;rw [e1];rfl
  ·right;rw [decide_eq_false_iff_not,e1];intro a;rcases g with ⟨e3,_⟩ | ⟨e',he',hs',e3,_⟩
   ·rw [e3] at a;exact Zl1 d he a
   ·rw [e3] at a;have:=ZCJ d he he' a;subst this;omega
structure StG (f:List ZY) (s:JD):Prop where
 slots:Zoy f s.slots
 ok:Yg s=Xb
 pend:s.pending.length≤3
 psrc:∀ q∈s.pending,q.src.path.length≤20∧q.call.dest < 8
 pok:∀ q∈s.pending,Kl q=Xb
 marks:s.marks.length≤3
 answers:s.answers.length≤3
 entries:s.entries.length≤3
 epath:∀ e∈s.entries,e.node.path.length≤20
 commits:s.commits.length≤3
abbrev StT:=LL×LL×LL×LL×LL×LL
def stV (s:JD):StT:=(s.slots.map Zv,s.pending.map Jq,s.marks.map Zz,s.answers.map JB,s.entries.map Zi,Ze s.commits)
def StR (f:List ZY) (l:List Int) (r:StT):Prop:=∃ s:JD,r=stV s∧StG f s∧(RL l→ZfM s)
def ZJn (z:List Int) (l:List Req):Prop:=(RL z→∀ q∈l,∀ x∈Yu q.call,Rng x)∧l.length≤3∧(∀ q∈l,q.src.path.length≤20∧q.call.dest < 8)∧(∀ q∈l,Kl q=Xb)∧Ve ltp l=Xb
def ZGV (l:List Zaq):Prop:=l.length≤3∧(∀ q∈l,Kf q=Xb)∧Ve ltm l=Xb
def ZDc (l:List Ans):Prop:=l.length≤3∧(∀ q∈l,Wu q=Xb)∧Ve lta l=Xb
def ZAH (l:List ZY):Prop:=l.length≤3∧(∀ e∈l,e.node.path.length≤20)∧(∀ q∈l,VR q=Xb)∧Ve lte l=Xb
def ZCv (l:List Id):Prop:=l.length≤3∧∀ q∈l,Za4 q=Xb
def ZrT {l:List Int} {f:List ZY} {n:Nat} (p:FOk f n) {c:List YN} (m:Zoy f c) {d:List Req} (a:ZJn l d) {e:List Zaq} (g:ZGV e) {h:List Ans} (i:ZDc h) {j:List ZY} (b:ZAH j) {k:List Id} (o:ZCv k) :
  StR f l (c.map Zv,d.map Jq,e.map Zz,h.map JB,j.map Zi,Ze k):=by
 refine ⟨⟨c,d,e,h,j,k⟩,rfl,⟨m,?_,a.2.1,a.2.2.1,a.2.2.2.1,g.1,i.1,b.1,b.2.1,o.1⟩,a.1⟩;simp only [Yg,Zr3 p m,Xo.2 a.2.2.2.1,a.2.2.2.2,Xo.2 g.2.1,g.2.2,Xo.2 i.2.1,i.2.2,Xo.2 b.2.2.1,b.2.2.2,Xo.2 o.2,Bool.and_self]
def ZyR {e:ZY} (h:EOk e):VR e=Xb:=by
 obtain ⟨b,c,d,f,_,_,_,_,_,a⟩:=h;simp only [VR,Zw,JO,a,Xj,P5,and_true];omega
def ZEy (l:List Int) (f:List ZY) (n:Nat) (d:FOk f n) (R:n≤60) (t u v w x y g j m o:LL) (h:∀ A C,ZAH A→ZCv C→StR f l (g,j,m,o,A.map Zi,Ze C)) :
  Ret (StR f l) (Zoa Zr (Zd l) (f.map Zi) t u v w x y g j m o E0 E0 0):=by
 have E:=d.len
 refine YU (F:=fun k (s:LL×LL) z=>Zoa k (Zd l) (f.map Zi) t u v w x y g j m o s.1 s.2 z) 3
  (fun i s=>∃ cs,s=(UA Zi (f.take i),Ze cs)∧i≤f.length∧cs.length≤i∧∀ c∈cs,Za4 c=Xb) (by omega) (fun k i s G H ih=>?_) (E0,E0) ⟨[],by simp [Ze],by omega,by simp,by simp⟩
 obtain ⟨cs,rfl,S,T,D⟩:=H;have a:Ret (StR f l) (Xa (g,j,m,o,UA Zi (f.take i),Ze cs)):=Zf (h _ _ ⟨by simp;omega,fun e p=>by have:=(YD (d.all e (XS p)).ok).2.2.1;omega,fun e p=>ZyR (d.all e (XS p)),Zso d.asc.take⟩ ⟨by omega,D⟩);show Ret _ (Zoa (k+1) _ _ _ _ _ _ _ _ _ _ _ _ _ _ _);rw [Zr4];refine Zb (ZA l _) fun _ _=>Zb (place _ 3 (by omega) (by omega)) fun J L=>?_;refine Zo (fun M=>?_) fun _=>a;refine Zo (fun N=>?_) fun _=>a;simp only [CQ,Xk] at M N;have b:i < f.length:=by omega
 refine Zl (ZV (by simp;omega) (by omega)) ?_;refine Zc (Zu b _) ?_;simp only [Yx,d2,d4,d8,P2,d6,df,dg,dh,di,dj,dk,dl];refine Zl (ZV (by simp;omega) (by omega)) (Zl (ZV (by rw [ZX];simp;omega) (by omega)) ?_);refine Zb (ZA l _) fun _ _=>Zb (s22 _) fun r ⟨c,O,q⟩=>?_;subst O;refine Zl (ZV (by rw [ZX];simp;omega) (by omega)) ?_;rw [Zfa G (by omega)];refine ih (by omega) (UA Zi (f.take i)++(E0++[Zi f[i]]),Ze cs++(E0++[idc c])) ⟨cs++[c],?_,by omega,by simp;omega,Y0 D q.ok⟩;have Q:f.take (i+1)=f.take i++[f[i]]:=by rw [Tz,Xp b];rfl
 rw [Q,K1];simp [Ze]
def ZEM (l:List Int) (f:List ZY) (n:Nat) (C:FOk f n) (D:n≤60) (p q r t u w e g m:LL) (h:∀ y b c,ZDc y→ZAH b→ZCv c→StR f l (e,g,m,y.map JB,b.map Zi,Ze c)) :
  Ret (StR f l) (ZnT Zr (Zd l) (f.map Zi) p q r t u w e g m E0 E0 E0 0):=by
 refine YU (F:=fun k (s:LL) z=>ZnT k (Zd l) (f.map Zi) p q r t u w e g m s E0 E0 z) 3
  (fun i s=>∃ a:List Ans,s=UA JB a∧a.length=i∧(∀ j (h:j < a.length),a[j].op=((j+1:Nat):Int))∧∀ x∈a,Wu x=Xb) (by omega) (fun k i s E d ih=>?_) _ ⟨[],rfl,by simp,by simp,by simp⟩
 obtain ⟨a,rfl,N,o,A⟩:=d;show Ret _ (ZnT (k+1) _ _ _ _ _ _ _ _ _ _ _ _ _ _ _);rw [ZrQ];refine Zb (ZA l _) fun _ _=>Zb (place _ 3 (by omega) (by omega)) fun G H=>?_;refine Zo (fun J=>?_) fun _=>ZEy l f n C D _ _ _ _ _ _ _ _ _ _ fun b c L M=>h a b c ⟨by omega,A,(ZhA ..).2 fun j d=>by rw [lta,o,o,P5];omega⟩ L M;simp only [CQ] at J;refine Zl (ZV (by simp;omega) (by omega)) ?_;refine Zb (ZA l _) fun _ _=>Zb (place _ 20 (by omega) (by omega)) fun v O=>?_;refine Zl (ZV (by simp;omega) (by omega)) ?_;rw [Zfa E (by omega)];refine ih (by omega) _ ⟨a++[⟨((i+1:Nat):Int),v⟩],by rw [← K1];rfl,by simp;omega,fun j d=>?_,Y0 A (by simp only [Wu,Zcq,Xj,P5];omega)⟩;by_cases hjl:j < a.length
 ·rw [To hjl];exact o j hjl
 ·rw [TX (by omega)];rw [Xf,Xv,Xm] at d;have:j=i:=by omega
  subst this;simp
def ZFA (l:List Int) (f:List ZY) (n:Nat) (G:FOk f n) (H:n≤60) (u v w y A C m o:LL) (h:∀ D b d e,ZGV D→ZDc b→ZAH d→ZCv e→StR f l (m,o,D.map Zz,b.map JB,d.map Zi,Ze e)) :
  Ret (StR f l) (ZkN Zr (Zd l) (f.map Zi) u v w y A C m o E0 E0 E0 E0 0):=by
 refine YU (F:=fun k (s:LL) z=>ZkN k (Zd l) (f.map Zi) u v w y A C m o s E0 E0 E0 z) 3
  (fun i s=>∃ a:List Zaq,s=UA Zz a∧a.length=i∧(∀ j (h:j < a.length),a[j].region=(j:Int))∧∀ x∈a,Kf x=Xb) (by omega) (fun k i s J g ih=>?_) _ ⟨[],rfl,by simp,by simp,by simp⟩
 obtain ⟨a,rfl,R,p,E⟩:=g;show Ret _ (ZkN (k+1) _ _ _ _ _ _ _ _ _ _ _ _ _ _ _);rw [Zsd];refine Zb (ZA l _) fun _ _=>Zb (place _ 3 (by omega) (by omega)) fun L M=>?_;refine Zo (fun N=>?_) fun _=>ZEM l f n G H _ _ _ _ _ _ _ _ _ fun b d e O Q q=>h a b d e ⟨by omega,E,(ZhA ..).2 fun j g=>by rw [ltm,p,p,P5];omega⟩ O Q q;simp only [CQ] at N;refine Zl (ZV (by simp;omega) (by omega)) ?_;refine Zb (ZA l _) fun _ _=>Zb (s22 _) fun r ⟨c,q,t⟩=>?_;subst q;refine Zl (ZV (by simp;omega) (by omega)) ?_;rw [Zfa J (by omega)];refine ih (by omega) _ ⟨a++[⟨(i:Int),c⟩],by rw [← K1];rfl,by simp;omega,fun j g=>?_,Y0 E (by simp only [Kf,Jo,t.ok,Xj,P5,and_true];omega)⟩;by_cases hjl:j < a.length
 ·rw [To hjl];exact p j hjl
 ·rw [TX (by omega)];rw [Xf,Xv,Xm] at g;have:j=i:=by omega
  subst this;simp
def ZE2 (l:List Int) (f:List ZY) (n:Nat) (L:FOk f n) (hn:n≤60) (v w y A C D d:LL) (h:∀ Z E G H J,ZJn l Z→ZGV E→ZDc G→ZAH H→ZCv J→StR f l (d,Z.map Jq,E.map Zz,G.map JB,H.map Zi,Ze J)) :
  Ret (StR f l) (ZgT Zr (Zd l) (f.map Zi) v w y A C D d E0 E0 E0 E0 E0 0):=by
 have aa:=L.len
 refine YU (F:=fun k (s:LL) z=>ZgT k (Zd l) (f.map Zi) v w y A C D d s E0 E0 E0 E0 z) 3
  (fun i s=>∃ a,s=UA Jq a∧a.length≤i∧(∀ q∈a,q.src.path.length≤20∧q.call.dest < 8)∧(∀ q∈a,Kl q=Xb)∧Ve ltp a=Xb∧(RL l→∀ q∈a,∀ x∈Yu q.call,Rng x)) (by omega) (fun k i s hi hj ih=>?_) _ ⟨[],rfl,by simp,by simp,by simp,rfl,by simp⟩
 obtain ⟨a,rfl,h1,M,N,O,Q⟩:=hj;have e:=ZFA l f n L hn v w y A C D d (UA Jq a) fun E G H J hm ha he hc=>h a E G H J ⟨Q,by omega,M,N,O⟩ hm ha he hc;show Ret _ (ZgT (k+1) _ _ _ _ _ _ _ _ _ _ _ _ _ _ _);rw [ZsS];refine Zb (ZA l _) fun _ _=>Zb (place _ 3 (by omega) (by omega)) fun ab ac=>?_;refine Zo (fun h4=>?_) fun _=>e;refine Zo (fun h5=>?_) fun _=>e;simp only [CQ,Xk] at h4 h5;have R:P1 .add .i64 13 (i:Int)=13+i:=JE (by omega) (by omega);rw [R];refine Zb (s24 l _ (by omega)) fun r ⟨m,hr,_,g⟩=>?_;subst hr;rw [Xk];refine Zb (ZA l _) fun _ _=>Zb (place _ _ (by omega) (by omega)) fun j S=>?_;have p:j.toNat < f.length:=by omega
 refine Vs S.1 p ?_;simp only [Yx,d2,d4,d8,P2,d6,df,dg,dh,di,dj,dk,dl];have t:=(L.all _ (Xq p)).ok;have hp:=(YD t).2.2.1;refine Zb (s23 m f[j.toNat].node t (by omega)) fun r ⟨q,hq,T,U,W⟩=>?_;subst hq;rw [Zfa hi (by omega)];have room1:Z6 E0 (UA Jq a) 240:=ZV (by simp;omega) (by omega);have b:Z6 (UA Jq a) (E0++[Jq q]) 240:=ZV (by simp;omega) (by omega);have u:i < 3→(∀ h:0 < a.length,ltp (a[a.length-1]'(by omega)) q=Xb)→Ret (StR f l) (ZgT k (Zd l) (f.map Zi) v w y A C D d (UA Jq a++(E0++[Jq q])) E0 E0 E0 E0 ((i+1:Nat):Int)):=fun X c=>ih X _ ⟨a++[q],(K1 ..),by simp;omega,Y0 M T,Y0 N U,Zmm O c,fun hl=>Y0 (Q hl) (W (g hl))⟩;refine Zo (fun Y=>Zl room1 (Zl b (u (by omega) fun h=>?_))) fun Y=>?_
 ·simp only [CQ,Xk] at Y;omega
 simp only [CQ,Xk] at Y;have e1:P1 .sub .i64 (Xh (UA Jq a):Int) 1=((a.length-1:Nat):Int):=by rw [Xk,Ze0 (by omega) (by omega)];omega
 rw [e1];refine Zc (JZ (show a.length-1 < a.length by omega) _) ?_;refine Zc (congrArg (fun o=>X8 o _) (s82 _ _ _ _ _ _)) ?_;refine Zo (fun c=>Zl room1 (Zl b (u (by omega) fun _=>c))) fun _=>ih (by omega) _ ⟨a,rfl,by omega,M,N,O,Q⟩
def ZrP (b:Id) (s:YN):YN:={ s with lock:=b }
def ZyJ (a:List YN) (i:Nat) (b:Id):Jk (a.map Zv) i 12 [I b.core,I b.op,I b.part]=(a.modify i (ZrP b)).map Zv:=Zeb Zv (ZrP b) a i 12 _ fun _ _=>rfl
def Zoy.lockS {f:List ZY} {a:List YN} (h:Zoy f a) (i:Nat) (m:i < a.length) (b:Id) (l:Za4 b=Xb) (d:Zfn a[i]=Xc):Zoy f (a.modify i (ZrP b)):=by
 refine ⟨by rw [Tn];exact h.len,fun t g=>?_⟩;rw [Tn] at g;rw [List.getElem_modify];obtain ⟨j,k⟩:=h.spot t g;split
 ·rename_i c;subst c;refine ⟨j,?_⟩;rcases k with ⟨e1,_⟩ | ⟨e,he',hs,e1,_⟩
  ·rw [Zfn,e1] at d;exact absurd d (by decide)
  ·exact .inr ⟨e,he',hs,e1,.inr l⟩
 ·exact ⟨j,k⟩
def Zoy.opS {f:List ZY} {b:List YN} (h:Zoy f b) (i:Nat) (g:YN→YN) (a:∀ x,(g x).node=x.node∧(g x).lock=x.lock∧0≤(g x).op∧(g x).op≤20):Zoy f (b.modify i g):=by
 refine ⟨by rw [Tn];exact h.len,fun t c=>?_⟩;rw [Tn] at c;rw [List.getElem_modify];obtain ⟨e,d⟩:=h.spot t c;split
 ·rw [(a _).1,(a _).2.1];exact ⟨(a _).2.2,d⟩
 ·exact ⟨e,d⟩
def ZHg (l:List Int) (f:List ZY) (n:Nat) (hf:FOk f n) (hn:n≤60) (y2 y3 y4 y5 y6 y7:LL) (ss:List YN) (hss:Zoy f ss) :
  Ret (StR f l) (Zcv Zr (Zd l) (f.map Zi) y2 y3 y4 y5 y6 y7 (ss.map Zv) E0 E0 E0 E0 E0 0):=by
 refine YU (F:=fun k (s:LL) z=>Zcv k (Zd l) (f.map Zi) y2 y3 y4 y5 y6 y7 s E0 E0 E0 E0 E0 z) 12
  (fun i s=>∃ es,s=UA Zv es∧Zoy f es) (by omega) (fun k i s hi hj ih=>?_) _ ⟨ss,rfl,hss⟩
 obtain ⟨es,rfl,h1⟩:=hj;have hl:=h1.len;show Ret _ (Zcv (k+1) _ _ _ _ _ _ _ _ _ _ _ _ _ _ _);rw [Zsx,Xk];refine Zo (fun h4=>?_) fun _=>ZE2 l f n hf hn _ _ _ _ _ _ _ fun pe ma an en co hp hm ha he hc=>ZrT hf h1 hp hm ha he hc;simp only [CQ] at h4;have hi12:i < 12:=by omega
 have hie:i < es.length:=by omega
 rw [Zfa hi (by omega)];have h0:(0:Int)≤(i:Int):=by omega
 have hlt:(i:Int) < (es.length:Int):=by omega
 -- what becomes of the reservation
 have part2:∀ es':List YN,Zoy f es'→Ret (StR f l) ((g21 (Zd l) (i:Int)).bind fun (r17:Int)=>(g13 r17 7).bind fun (r18:Int)=>if (P0 .eql r18 6)=Xb then (g21 (Zd l) (i:Int)).bind fun (r19:Int)=>Zy ((7:Int)≠0)<|(g13 (P1 .quo .i64 r19 7) 20).bind fun (r20:Int)=>Zy ((0:Int)≤(i:Int))<|Zy ((i:Int) < (Xh (es'.map Zv):Int))<|Zy ((0:Int)≤(i:Int))<|Zy ((i:Int) < (Xh (es'.map Zv):Int))<|
   Zcv k (Zd l) (f.map Zi) y2 y3 y4 y5 y6 y7 (Jk (es'.map Zv) (XJ (i:Int)) 11 [I (P1 .add .i64 1 r20)]) E0 E0 E0 E0 E0 ((i+1:Nat):Int)
   else Zcv k (Zd l) (f.map Zi) y2 y3 y4 y5 y6 y7 (es'.map Zv) E0 E0 E0 E0 E0 ((i+1:Nat):Int)):=by
  intro es' he';have hl':=he'.len;refine Zb (ZA l _) fun _ _=>Zb (place _ 7 (by omega) (by omega)) fun r18 _=>?_;refine Zo (fun _=>?_) fun _=>ih hi12 _ ⟨es',rfl,he'⟩;refine Zb (ZA l _) fun _ _=>Zl (by omega) (Zb (place _ 20 (by omega) (by omega)) fun r20 h20=>?_);rw [Xk];refine Zl h0 (Zl (by omega) (Zl h0 (Zl (by omega) ?_)));have e20:P1 .add .i64 1 r20=1+r20:=JE (by omega) (by omega);rw [Uk,e20,ZBn];exact ih hi12 _ ⟨_,rfl,he'.opS _ _ fun x=>⟨rfl,rfl,by show 0≤1+r20;omega,by show 1+r20≤20;omega⟩⟩
 refine Zb (ZA l _) fun _ _=>Zb (place _ 5 (by omega) (by omega)) fun r16 _=>?_;refine Zo (fun _=>?_) fun _=>?_
 ·refine Zl h0 (Zl hlt ?_);refine Zc (JQ hie _) ?_;simp only [Ze7,d2,d4,d8,P2,d6,df,dg,dh,di,dj,dk,dl];rw [s81,Xd];refine Zo (fun hne=>?_) fun _=>?_
  ·rw [Xu] at hne;refine Zb (ZA l _) fun _ _=>Zl (by omega) (Zb (s22 _) fun r ⟨b,hb,hbo⟩=>?_);subst hb;refine Zl h0 (Zl hlt (Zl h0 (Zl hlt ?_)));have:=part2 (es.modify i (ZrP b)) (h1.lockS i hie b hbo.ok hne);rw [← ZyJ,← Uk i] at this;exact this
  ·have:=part2 es h1;rw [Xk] at this;exact this
 ·have:=part2 es h1;rw [Xk] at this;exact this
def s30 (l:List Int) (f:List ZY) (n:Nat) (a:FOk f n) (b:n≤60) (c:Int):Ret (StR f l) (g30 (Zd l) (f.map Zi) c):=by
 rw [ZBP];refine Zb (s80 f n b a c) fun r ⟨s,d,e⟩=>?_;subst e;exact ZHg l f n a b _ _ _ _ _ _ s d.slIn
def StG.few {f:List ZY} {n:Nat} (a:FOk f n) {s:JD} (h:StG f s):ZIJ s.slots:=by
 refine ⟨by have:=h.slots.len;omega,fun x b=>?_⟩;obtain ⟨t,c,rfl⟩:=Uv b;rcases (h.slots.spot t c).2 with ⟨e,_⟩ | ⟨e,he,_,e1,_⟩
 ·rw [e];simp [Z5]
 ·rw [e1];have:=(YD (a.all e he).ok).2.2.1;omega
def Zt {b:Bool} (h:b=Xc):¬ b=Xb:=by simp [h]
structure VwG (v:Vu):Prop where
 ok:KG v=Xb
 members:v.members.length≤4
 owners:v.owners.length≤4
def WL {z:Int} (h:0≤z∧z < 4):Zw z=Xb:=by simp only [Zw,P5];omega
def s29 (l:List Int):Ret (fun r=>∃ v:Vu,r=(v.number,Zd v.members,Zd v.owners)∧VwG v) (g29 (Zd l)):=by
 rw [ZCw];refine Zb (ZA l _) fun _ _=>Zb (place _ 200 (by omega) (by omega)) fun c A=>?_
 have d:∀ a:List Int,a.length≤4→(∀ x∈a,Zw x=Xb)→(∀ i (h:i < a.length),Ze6 a i=Xb)→Ret (fun r=>∃ v:Vu,r=(v.number,Zd v.members,Zd v.owners)∧VwG v) (Zof Zr (Zd l) 0 E0 E0 c (Zd a) E0 0):=by
  intro a q t u;refine YU (F:=fun k (s:LL) z=>Zof k (Zd l) 0 E0 E0 c (Zd a) s z) 3 (fun i s=>∃ b:List Int,s=Zd b∧b.length≤i∧∀ x∈b,Zw x=Xb) (by omega) (fun k i s p n ih=>?_) _ ⟨[],rfl,by simp,by simp⟩;obtain ⟨b,rfl,C,o⟩:=n;show Ret _ (Zof (k+1) _ _ _ _ _ _ _ _);rw [ZsQ];refine Zb (ZA l _) fun _ _=>Zb (place _ 3 (by omega) (by omega)) fun D E=>?_;refine Zo (fun w=>?_) fun _=>Zf ⟨⟨c,a,b⟩,rfl,⟨?_,q,by show b.length≤4;omega⟩⟩
  ·simp only [CQ] at w;refine Zl (ZV (by simp [ZT];omega) (by omega)) ?_;refine Zb (ZA l _) fun _ _=>Zb (place _ 4 (by omega) (by omega)) fun f g=>?_;refine Zl (ZV (by simp [Zd];omega) (by omega)) ?_;rw [Zfa p (by omega)];exact ih (by omega) _ ⟨b++[f],(K1 WS b _),by simp;omega,Y0 o (WL g)⟩
  ·have G:((XW 0 a.length).all fun i=>atB Zw a i&&Ze6 a i)=Xb:=by
    rw [Xo];intro i p;rw [Ta] at p;have m:i < a.length:=by omega
    rw [Jz _ m,t _ (Xq m),u i m];rfl
   have H:JR c=Xb:=by simp only [JR,P5];omega
   simp only [KG,G,H,Xo.2 o,X6,XP,Xj,P5];omega
 refine YU (F:=fun k (s:LL) z=>Zn3 k (Zd l) 0 E0 E0 c s E0 z) 4 (fun i s=>∃ b:List Int,s=Zd b∧b.length≤i∧(∀ x∈b,Zw x=Xb)∧∀ i (h:i < b.length),Ze6 b i=Xb) (by omega) (fun k i s p n ih=>?_) _ ⟨[],rfl,by simp,by simp,by simp⟩;obtain ⟨b,rfl,C,o,y⟩:=n;show Ret _ (Zn3 (k+1) _ _ _ _ _ _ _ _);rw [ZrR];refine Zb (ZA l _) fun _ _=>Zb (place _ 4 (by omega) (by omega)) fun D E=>?_;refine Zo (fun w=>?_) fun _=>d b (by omega) o y;simp only [CQ] at w;refine Zb (ZA l _) fun _ _=>Zb (place _ 4 (by omega) (by omega)) fun f g=>?_;rw [s79 b (by omega),Xd,Zfa p (by omega)];refine Zo (fun J=>?_) fun _=>ih (by omega) _ ⟨b,rfl,by omega,o,y⟩;refine Zl (ZV (by simp [ZT];omega) (by omega)) ?_;refine Zl (ZV (by simp [Zd];omega) (by omega)) ?_;refine ih (by omega) _ ⟨b++[f],(K1 WS b _),by simp;omega,Y0 o (WL g),fun j n=>?_⟩;rw [Xf,Xv,Xm] at n;rw [Znk (by simpa using n)];by_cases hjl:j < b.length
 ·have:=y j hjl;rw [Znk hjl] at this;rw [To hjl,TY (by omega)];exact this
 ·have e:j=b.length:=by omega
  subst e;rw [TX (Xr _),Tf];simpa using J
def s27 (z:Int):Ret (fun r=>∃ cs:List Int,r=Zd cs∧cs.length≤4∧ZaV cs=Xb) (g27 z):=by
 rw [ZBe];refine YU (F:=fun k (s:LL) i=>Zn1 k z s i) 4 (fun i s=>∃ a:List Int,s=Zd a∧a.length≤i∧(∀ x∈a,0≤x∧x < (i:Int))∧Ve ltI a=Xb) (by omega) (fun k i s f g ih=>?_) _ ⟨[],rfl,by simp,by simp,rfl⟩;obtain ⟨a,rfl,l,c,d⟩:=g;show Ret _ (Zn1 (k+1) _ _ _);rw [Zte];refine Zo (fun e=>?_) fun e=>Zf ⟨a,rfl,by omega,?_⟩
 ·simp only [CQ] at e;have j:Xi .u64 (i:Int)=i:=Jc (by omega) (by omega);rw [j];refine Zl (by omega) (Zb (place _ 2 (by omega) (by omega)) fun m _=>?_);rw [Zfa f (by omega)];refine Zo (fun _=>?_) fun _=>ih (by omega) _ ⟨a,rfl,by omega,fun x b=>by have:=c x b;omega,d⟩;refine Zl (ZV (by simp [Zd];omega) (by omega)) (ih (by omega) _ ⟨a++[(i:Int)],(K1 WS a _),by simp;omega,fun x b=>?_,Zmm d fun h=>?_⟩)
  ·rw [Xz,Uh] at b;rcases b with b | rfl
   ·have:=c x b;omega
   ·omega
  ·have:=c _ (Xq (show a.length-1 < a.length by omega));rw [ltI,P5];omega
 ·rw [ZaV,d,X6,Xo];intro x b;have:=c x b;exact WL ⟨by omega,by omega⟩
def s77 (a b c:Int):Ret (fun r=>∃ i:Id,r=(i.core,i.op,i.part)∧Vx i=Xb) (g77 a b c):=by
 rw [Zzh];refine Zb (place a 4 (by omega) (by omega)) fun x d=>Zb (place b 12 (by omega) (by omega)) fun y f=>Zb (place c 3 (by omega) (by omega)) fun z g=>?_;have e:P1 .add .i64 1 y=1+y:=JE (by omega) (by omega);rw [e];exact Zf ⟨⟨x,1+y,z⟩,rfl,by simp only [Vx,P5];omega⟩
def s26 (l:List Int) (h:l.length < 2^63):Ret (fun r=>∃ e:List Id,r=Ze e∧e.length≤8∧∀ i∈e,Vx i=Xb) (g26 (Zd l)):=by
 rw [ZBl];refine K3 (F:=fun k (s:LL) i=>Zli k (Zd l) s i) (n:=l.length) (fun i s=>∃ a:List Id,s=Ze a∧a.length≤8∧∀ i∈a,Vx i=Xb) h (fun k i s b f ih=>?_) (fun k s f=>?_) _ ⟨[],rfl,by simp,by simp⟩
 ·obtain ⟨a,rfl,d,c⟩:=f;show Ret _ (Zli (k+1) _ _ _);rw [ZlH,ZT,ZX,P4 (Z4 b)];refine Zo (fun j=>?_) fun _=>Zf ⟨a,rfl,d,c⟩;simp only [CQ] at j;refine Zc (Z2 b _) (Zc (Z2 b _) (Zl (by omega) (Zc (Z2 b _) (Zl (by omega) ?_))));refine Zb (s77 _ _ _) fun r ⟨x,m,g⟩=>?_;subst m;rw [s78 a (by omega),Xd,ZS b h];refine Zo (fun _=>?_) fun _=>ih _ ⟨a,rfl,d,c⟩;exact Zl (ZV (by rw [ZX];simp;omega) (by omega)) (ih _ ⟨a++[x],by simp [Ze,idc],by simp;omega,Y0 c g⟩)
 ·obtain ⟨a,rfl,d,c⟩:=f;show Ret _ (Zli (k+1) _ _ _);rw [ZlH,ZT,P3 (Z3 (Xr _))];exact Zf ⟨a,rfl,d,c⟩
structure StS (s:JD):Prop where
 ok:Yg s=Xb
 slots:s.slots.length≤12
 spath:∀ x∈s.slots,x.node.path.length≤20
 pend:s.pending.length≤3
 psrc:∀ q∈s.pending,q.src.path.length≤20
 marks:s.marks.length≤3
 answers:s.answers.length≤3
 entries:s.entries.length≤3
 epath:∀ e∈s.entries,e.node.path.length≤20
 commits:s.commits.length≤3
def StG.short {f:List ZY} {n:Nat} (a:FOk f n) {s:JD} (h:StG f s):StS s:=⟨h.ok,by have:=h.slots.len;omega,(h.few a).path,h.pend,fun q b=>(h.psrc q b).1,h.marks,h.answers,h.entries,h.epath,h.commits⟩
def StS.fits {s:JD} (h:StS s):s.Fits:=by
 have b:=h.slots;have c:=h.pend;have d:=h.marks;have e:=h.answers;have f:=h.entries;have g:=h.commits;exact ⟨by omega,by omega,by omega,by omega,by omega,by omega,fun x a=>by have:=h.spath x a;omega,fun x a=>by have:=h.psrc x a;omega,fun x a=>by have:=h.epath x a;omega⟩
def Wh:StS Zk:=⟨by kernel_rfl,by simp [Zk],by simp [Zk],by simp [Zk],by simp [Zk],by simp [Zk],by simp [Zk],by simp [Zk],by simp [Zk],by simp [Zk]⟩
def Ws:VwG ZW:=⟨by kernel_rfl,by simp [ZW],by simp [ZW]⟩
def VwG.fits {v:Vu} (h:VwG v):v.Fits:=⟨by have:=h.members;omega,by have:=h.owners;omega⟩
def Zro (r:Js):Prop:=ZfM r.state∧ZfM r.proposal
structure RpS (r:Js):Prop where
 core:Zw r.core=Xb
 view:VwG r.view
 state:StS r.state
 next:VwG r.next
 proposal:StS r.proposal
def RpS.ok {r:Js} (h:RpS r):Zcy r=Xb:=by simp only [Zcy,h.core,h.view.ok,h.state.ok,h.next.ok,h.proposal.ok,Bool.and_self]
def Zan:RpS Zn:=⟨by kernel_rfl,Ws,Wh,Ws,Wh⟩
abbrev RpT:=Int×Int×LL×LL×LL×LL×LL×LL×LL×LL×Bool×Int×LL×LL×LL×LL×LL×LL×LL×LL
def rpV (r:Js):RpT:=(r.core,r.view.number,Zd r.view.members,Zd r.view.owners,r.state.slots.map Zv,r.state.pending.map Jq,r.state.marks.map Zz,r.state.answers.map JB,r.state.entries.map Zi,Ze r.state.commits,r.ready,r.next.number,Zd r.next.members,Zd r.next.owners,r.proposal.slots.map Zv,r.proposal.pending.map Jq,r.proposal.marks.map Zz,r.proposal.answers.map JB,r.proposal.entries.map Zi,Ze r.proposal.commits)
def JX:ZfM Zk:=fun q a=>by cases a
def s28 (l:List Int) (f:List ZY) (n:Nat) (b:FOk f n) (m:n≤60):Ret (fun r=>∃ p:Js,r=rpV p∧RpS p∧(RL l→Zro p)) (g28 (Zd l) (f.map Zi)):=by
 rw [ZCZ];refine Zb (ZA l _) fun _ _=>Zb (place _ 4 (by omega) (by omega)) fun c o=>?_;refine Zb (s24 l 1 (by omega)) fun r ⟨g,a,_⟩=>?_;subst a;refine Zb (s29 g) fun r ⟨v,a,q⟩=>?_;subst a;refine Zb (s24 l 2 (by omega)) fun r ⟨i,a,_,t⟩=>?_;subst a;refine Zb (s30 i f n b m c) fun r ⟨s,a,u,d⟩=>?_;subst a;refine Zb (ZA l _) fun _ _=>Zb (place _ 2 (by omega) (by omega)) fun _ _=>?_;refine Zo (fun _=>?_) fun _=>Zf ⟨⟨c,v,s,Xc,ZW,Zk⟩,rfl,⟨WL o,q,u.short b,Ws,Wh⟩,fun h=>⟨d (t h),JX⟩⟩;refine Zb (s24 l 4 (by omega)) fun r ⟨g,a,_⟩=>?_;subst a;refine Zb (s29 g) fun r ⟨w,a,j⟩=>?_;subst a;refine Zb (s24 l 5 (by omega)) fun r ⟨i,a,_,x⟩=>?_;subst a;refine Zb (s30 i f n b m c) fun r ⟨y,a,k,e⟩=>?_;subst a;exact Zf ⟨⟨c,v,s,Xb,w,y⟩,rfl,⟨WL o,q,u.short b,j,k.short b⟩,fun h=>⟨d (t h),e (x h)⟩⟩
def ZpL (m:Msg):Prop:=(∀ z∈Yu m.req.call,Rng z)∧ZfM m.state∧Zro m.report
def YL:∀ z∈Yu Jr.call,Rng z:=by
 intro z a;simp only [Yu,Jr,ZtW,Xs,Tm,or_false] at a;have:z=0:=by omega
 subst this;exact ⟨by decide,by decide⟩
def JC:Zro Zn:=⟨JX,JX⟩
structure MsS (m:Msg):Prop where
 req:m.req.src.path.length≤20
 ids:m.ids.length≤8
 nodes:m.nodes.length≤3
 node:∀ x∈m.nodes,x.path.length≤20
 cores:m.cores.length≤4
 moves:m.moves.length≤3
 next:VwG m.next
 state:StS m.state
 report:RpS m.report
def RpS.fits {r:Js} (h:RpS r):r.Fits:=⟨h.view.fits,h.state.fits,h.next.fits,h.proposal.fits⟩
def MsS.fits {m:Msg} (h:MsS m):m.Fits:=⟨by have:=h.req;omega,by have:=h.ids;omega,by have:=h.nodes;omega,fun x a=>by have:=h.node x a;omega,by have:=h.cores;omega,by have:=h.moves;omega,h.next.fits,h.state.fits,h.report.fits⟩
def J8 (m:Msg) (k:Nat) (h:m.kind=(k:Int)) (i:1≤k) (j:k≤17) (l:0≤m.view∧m.view < 70) (b:0≤m.frm∧m.frm < 4) (c:0≤m.to∧m.to < 4) (a:(kf k).all (Zh m)=Xb) (d:rest k m=Xb):Z1 m=Xb:=by
 have e:kindOk m.kind=Xb:=by simp only [kindOk,P5];omega
 have f:JR m.view=Xb:=by simp only [JR,P5];omega
 have g:m.kind.toNat=k:=by omega
 simp only [Z1,headOk,e,f,WL b,WL c,g,a,d,Bool.and_self]
@[reducible] def lp11x0 (k:Nat) (l:List Int) (f:List ZY) (m:Msg) (s:LL) (z:Int):=Zr1 k (Zd l) (f.map Zi) 0 0 0 0 0 0 0 0 0 0 0 Xc 0 0 0 0 0 0 0 0 0 0 0 0 0 0 0 0 0 0 0 0 E0 0 0 0 0 0 0 Xc E0 E0 E0 E0 0 0 E0 E0 E0 E0 E0 E0 E0 E0 0 0 E0 E0 E0 E0 E0 E0 E0 E0 Xc 0 E0 E0 E0 E0 E0 E0 E0 E0 m.kind m.view m.frm m.to m.round m.region m.slot m.op.core m.op.op m.op.part m.err m.settled m.req.id.core m.req.id.op m.req.id.part m.req.call.kind m.req.call.slot m.req.call.dest m.req.call.core m.req.call.mask m.req.call.object m.req.call.bits m.req.call.level m.req.call.offset m.req.call.count m.req.call.index m.req.call.addr m.req.region m.req.width m.req.src.id.core m.req.src.id.op m.req.src.id.part (Ze m.req.src.path) m.req.src.cap.kind m.req.src.cap.base m.req.src.cap.bits m.req.src.cap.rights m.req.src.cap.width m.req.src.cap.level m.req.src.cap.device (Ze m.ids) s (Zd m.cores) (m.moves.map YE) m.base m.next.number (Zd m.next.members) (Zd m.next.owners) (m.state.slots.map Zv) (m.state.pending.map Jq) (m.state.marks.map Zz) (m.state.answers.map JB) (m.state.entries.map Zi) (Ze m.state.commits) m.report.core m.report.view.number (Zd m.report.view.members) (Zd m.report.view.owners) (m.report.state.slots.map Zv) (m.report.state.pending.map Jq) (m.report.state.marks.map Zz) (m.report.state.answers.map JB) (m.report.state.entries.map Zi) (Ze m.report.state.commits) m.report.ready m.report.next.number (Zd m.report.next.members) (Zd m.report.next.owners) (m.report.proposal.slots.map Zv) (m.report.proposal.pending.map Jq) (m.report.proposal.marks.map Zz) (m.report.proposal.answers.map JB) (m.report.proposal.entries.map Zi) (Ze m.report.proposal.commits) z
def ZEt (l:List Int) (f:List ZY) (n:Nat) (h:FOk f n) (w:n≤60) (m:Msg) :
  Ret (fun r=>∃ d:List Yc,r=Zt9 { m with nodes:=d }∧d.length≤3∧(∀ x∈d,ZD x=Xb)∧∀ x∈d,x.path.length≤20) (lp11x0 Zr l f m E0 0):=by
 have j:=h.len;refine YU (F:=fun k (s:LL) z=>lp11x0 k l f m s z) 3 (fun i s=>∃ a:List Yc,s=a.map YM∧a.length≤i∧(∀ x∈a,ZD x=Xb)∧∀ x∈a,x.path.length≤20) (by omega) (fun k i s o p ih=>?_) _ ⟨[],rfl,by simp,by simp,by simp⟩;obtain ⟨a,rfl,y,e,g⟩:=p;refine Zc (ZsY ..) ?_;refine Zb (ZA l _) fun _ _=>Zb (place _ 3 (by omega) (by omega)) fun q t=>?_;refine Zo (fun u=>?_) fun _=>Zf ⟨a,rfl,by omega,e,g⟩;refine Zo (fun v=>?_) fun _=>Zf ⟨a,rfl,by omega,e,g⟩;simp only [CQ,Xk] at u v;have b:i < f.length:=by omega
 refine Zl (ZV (by simp;omega) (by omega)) ?_;refine Zc (Zu b _) ?_;have c:=(h.all _ (Xq b)).ok;have A:=(YD c).2.2.1;refine Jb (s25 f[i].node (by omega)) ?_;refine Zl (ZV (by simp;omega) (by omega)) ?_;refine Zc (congrArg (fun z=>lp11x0 k l f m _ z) (Zfa o (by omega))) ?_;exact ih (by omega) _ ⟨a++[f[i].node],(K1 YM a f[i].node),by simp;omega,Y0 e c,Y0 g (by omega)⟩
@[reducible] def lp11x1 (k:Nat) (l:List Int) (m:Msg) (s:LL) (z:Int):=ZrZ k (Zd l) 0 0 0 0 0 0 0 0 0 0 0 Xc 0 0 0 0 0 0 0 0 0 0 0 0 0 0 0 0 0 0 0 0 E0 0 0 0 0 0 0 Xc E0 E0 E0 E0 0 0 E0 E0 E0 E0 E0 E0 E0 E0 0 0 E0 E0 E0 E0 E0 E0 E0 E0 Xc 0 E0 E0 E0 E0 E0 E0 E0 E0 m.kind m.view m.frm m.to m.round m.region m.slot m.op.core m.op.op m.op.part m.err m.settled m.req.id.core m.req.id.op m.req.id.part m.req.call.kind m.req.call.slot m.req.call.dest m.req.call.core m.req.call.mask m.req.call.object m.req.call.bits m.req.call.level m.req.call.offset m.req.call.count m.req.call.index m.req.call.addr m.req.region m.req.width m.req.src.id.core m.req.src.id.op m.req.src.id.part (Ze m.req.src.path) m.req.src.cap.kind m.req.src.cap.base m.req.src.cap.bits m.req.src.cap.rights m.req.src.cap.width m.req.src.cap.level m.req.src.cap.device (Ze m.ids) (m.nodes.map YM) (Zd m.cores) s m.base m.next.number (Zd m.next.members) (Zd m.next.owners) (m.state.slots.map Zv) (m.state.pending.map Jq) (m.state.marks.map Zz) (m.state.answers.map JB) (m.state.entries.map Zi) (Ze m.state.commits) m.report.core m.report.view.number (Zd m.report.view.members) (Zd m.report.view.owners) (m.report.state.slots.map Zv) (m.report.state.pending.map Jq) (m.report.state.marks.map Zz) (m.report.state.answers.map JB) (m.report.state.entries.map Zi) (Ze m.report.state.commits) m.report.ready m.report.next.number (Zd m.report.next.members) (Zd m.report.next.owners) (m.report.proposal.slots.map Zv) (m.report.proposal.pending.map Jq) (m.report.proposal.marks.map Zz) (m.report.proposal.answers.map JB) (m.report.proposal.entries.map Zi) (Ze m.report.proposal.commits) z
def ZED (l:List Int) (m:Msg) :
  Ret (fun r=>∃ d:List ZeF,r=Zt9 { m with moves:=d }∧d.length≤3∧(∀ x∈d,KV x=Xb)) (lp11x1 Zr l m E0 0):=by
 refine YU (F:=fun k (s:LL) z=>lp11x1 k l m s z) 3 (fun i s=>∃ c:List ZeF,s=c.map YE∧c.length≤i∧(∀ x∈c,KV x=Xb)) (by omega) (fun k i s f g ih=>?_) _ ⟨[],rfl,by simp,by simp⟩;obtain ⟨c,rfl,p,e⟩:=g;refine Zc (Ztd ..) ?_;refine Zb (ZA l _) fun _ _=>Zb (place _ 3 (by omega) (by omega)) fun h j=>?_;refine Zo (fun n=>?_) fun _=>Zf ⟨c,rfl,by omega,e⟩;simp only [CQ] at n;refine Zl (ZV (by simp;omega) (by omega)) ?_;refine Zb (ZA l _) fun _ _=>Zb (place _ 3 (by omega) (by omega)) fun a q=>?_;refine Zb (ZA l _) fun _ _=>Zb (place _ 4 (by omega) (by omega)) fun b o=>?_;refine Zl (ZV (by simp;omega) (by omega)) ?_;refine Zc (congrArg (fun z=>lp11x1 k l m (c.map YE++(E0++[YE ⟨a,b⟩])) z) (Zfa f (by omega))) ?_;refine ih (by omega) _ ⟨c++[⟨a,b⟩],(K1 YE c ⟨a,b⟩),by simp;omega,Y0 e ?_⟩;simp only [KV,WL o,Jo,X6,P5];omega
def s10 (S:Int) (l:List Int) (hl:l.length < 2^63) (f:List ZY) (n:Nat) (R:FOk f n) (hn:n≤60):Ret (fun r=>∃ m:Msg,r=Zt9 m∧Z1 m=Xb∧MsS m∧(RL l→ZpL m)) (g10 S (Zd l) (f.map Zi)):=by
 rw [ZCu];unfold m10;refine Zb (place _ 17 (by omega) (by omega)) fun r3 h3=>?_;obtain ⟨kd,ab⟩:∃ kd,kd=1+r3:=⟨_,rfl⟩;have ek:P1 .add .i64 1 r3=kd:=by rw [JE (by omega) (by omega),ab]
 rw [ek];refine Zb (ZA l _) fun _ _=>Zb (place _ 70 (by omega) (by omega)) fun v w=>?_;refine Zb (ZA l _) fun _ _=>Zb (place _ 4 (by omega) (by omega)) fun k s=>?_;refine Zb (ZA l _) fun _ _=>Zb (place _ 4 (by omega) (by omega)) fun o t=>?_;refine Zb (ZA l _) fun _ _=>Zb (s22 _) fun r ⟨i,b,ac⟩=>?_;subst b;have an:=R.len;refine Zo (fun h4=>?caA) fun _=>?caB
 case' caA=>
  simp only [CQ,Xk] at h4;rw [Xk];refine Zb (ZA l _) fun _ _=>Zb (place _ _ (by omega) (by omega)) fun z hz=>?_;have T:z.toNat < f.length:=by omega
  refine Vs hz.1 T ?_;have U:=(R.all _ (Xq T)).ok;generalize f[z.toNat]=e at U
  let nd:Yc:=e.node
  have G:ZD nd=Xb:=U
 case' caB=>
  let nd:Yc:=⟨i,[],⟨2,4096,12,3,0,0,Xc⟩⟩
  have G:ZD nd=Xb:=Zpf _ _ (by have:=ac.ok;rw [Za4,Xj] at this;exact this.1) (by kernel_rfl)
 all_goals
  have J:nd.path.length≤20:=by have:=(YD G).2.2.1;omega
  have W:kd=1∨kd=2∨kd=3∨kd=4∨kd=5∨kd=6∨kd=7∨kd=8∨kd=9∨kd=10∨kd=11∨kd=12∨kd=13∨kd=14∨kd=15∨kd=16∨kd=17:=by omega
  rcases W with rfl | rfl | rfl | rfl | rfl | rfl | rfl | rfl | rfl | rfl | rfl | rfl | rfl | rfl | rfl | rfl | rfl
  ·refine Zc (P4 (by kernel_rfl)) (Zb (ZA l _) fun _ _=>Zb (place _ 3 (by omega) (by omega)) fun c u=>?_);have a:Jo c=Xb:=by simp only [Jo,P5];omega
   refine Zc (P3 (Zt (by kernel_rfl))) ?_;refine Zc (P4 (by kernel_rfl)) ?_;refine Zb (s24 l 5 (by omega)) fun r ⟨L,b,M,A⟩=>?_;subst b;refine Zb (s23 L nd G J) fun r ⟨q,b,⟨ad,_⟩,ae,af⟩=>?_;subst b;exact Zf ⟨⟨1,v,k,o,0,c,0,zid,0,Xc,q,[],[],[],[],0,ZW,Zk,Zn⟩,rfl,J8 ⟨1,v,k,o,0,c,0,zid,0,Xc,q,[],[],[],[],0,ZW,Zk,Zn⟩ 1 rfl (by decide) (by decide) w s t (by simp only [kf,XU,Us,Zh,decide_true,X6,XP,Ut,Uo,Xv,Xm,ne_eq,not_true_eq_false,not_false_eq_true,a,ae]) (by kernel_rfl),⟨ad,by simp,by simp,by simp,by simp,by simp,Ws,Wh,Zan⟩,fun h=>⟨af (A h),JX,JC⟩⟩
  ·refine Zc (P4 (by kernel_rfl)) (Zb (ZA l _) fun _ _=>Zb (place _ 3 (by omega) (by omega)) fun c u=>?_);have a:Jo c=Xb:=by simp only [Jo,P5];omega
   refine Zc (P4 (by kernel_rfl)) (Zb (ZA l _) fun _ _=>Zb (s22 _) fun r ⟨op,b,d⟩=>?_);subst b;refine Zc (P3 (Zt (by kernel_rfl))) ?_;refine Zc (P4 (by kernel_rfl)) ?_;refine Zb (ZA l 6) fun _ _=>Zb (place _ 20 (by omega) (by omega)) fun H ag=>?_;have C:Zcq H=Xb:=by simp only [Zcq,P5];omega
   refine Zb (ZA l 7) fun _ _=>Zb (place _ 2 (by omega) (by omega)) fun st ao=>?_;refine Zl8 (ZEt l f n R hn ⟨2,v,k,o,0,c,0,op,H,(P0 .eql st 1),Jr,[],[],[],[],0,ZW,Zk,Zn⟩) fun r ⟨N,b,O,Q,ah⟩=>?_;exact ⟨⟨2,v,k,o,0,c,0,op,H,(P0 .eql st 1),Jr,[],N,[],[],0,ZW,Zk,Zn⟩,b,J8 ⟨2,v,k,o,0,c,0,op,H,(P0 .eql st 1),Jr,[],N,[],[],0,ZW,Zk,Zn⟩ 2 rfl (by decide) (by decide) w s t (by simp only [kf,XU,Us,Zh,decide_true,X6,XP,Ut,Uo,Xv,Xm,ne_eq,not_true_eq_false,not_false_eq_true,a,d.ok,C,Xo.2 Q,show N.length≤8 by omega,show ¬ ((2:Int)=4) by decide]) (by kernel_rfl),⟨by simp [Jr,Z5],by simp,O,ah,by simp,by simp,Ws,Wh,Zan⟩,fun h=>⟨YL,JX,JC⟩⟩
  ·refine Zc (P4 (by kernel_rfl)) (Zb (ZA l _) fun _ _=>Zb (place _ 3 (by omega) (by omega)) fun c u=>?_);have a:Jo c=Xb:=by simp only [Jo,P5];omega
   refine Zc (P4 (by kernel_rfl)) (Zb (ZA l _) fun _ _=>Zb (s22 _) fun r ⟨op,b,d⟩=>?_);subst b
   iterate 9 refine Zc (P3 (Zt (by kernel_rfl))) ?_
   exact Zf ⟨⟨3,v,k,o,0,c,0,op,0,Xc,Jr,[],[],[],[],0,ZW,Zk,Zn⟩,rfl,J8 ⟨3,v,k,o,0,c,0,op,0,Xc,Jr,[],[],[],[],0,ZW,Zk,Zn⟩ 3 rfl (by decide) (by decide) w s t (by simp only [kf,XU,Us,Zh,decide_true,X6,XP,Ut,Uo,Xv,Xm,ne_eq,not_true_eq_false,not_false_eq_true,a,d.ok]) (by kernel_rfl),⟨by simp [Jr,Z5],by simp,by simp,by simp,by simp,by simp,Ws,Wh,Zan⟩,fun h=>⟨YL,JX,JC⟩⟩
  ·refine Zc (P4 (by kernel_rfl)) (Zb (ZA l _) fun _ _=>Zb (place _ 3 (by omega) (by omega)) fun c u=>?_);have a:Jo c=Xb:=by simp only [Jo,P5];omega
   refine Zc (P4 (by kernel_rfl)) (Zb (ZA l _) fun _ _=>Zb (s22 _) fun r ⟨op,b,d⟩=>?_);subst b;refine Zc (P3 (Zt (by kernel_rfl))) ?_;refine Zc (P3 (Zt (by kernel_rfl))) ?_;refine Zc (P4 (by kernel_rfl)) ?_;refine Zb (ZA l 6) fun _ _=>Zb (place _ 12 (by omega) (by omega)) fun sl ap=>?_;have X:JO sl=Xb:=by simp only [JO,P5];omega
   refine Jb (s25 nd (Nat.le_trans J (by decide))) ?_;exact Zf ⟨⟨4,v,k,o,0,c,sl,op,0,Xc,Jr,[],[nd],[],[],0,ZW,Zk,Zn⟩,rfl,J8 ⟨4,v,k,o,0,c,sl,op,0,Xc,Jr,[],[nd],[],[],0,ZW,Zk,Zn⟩ 4 rfl (by decide) (by decide) w s t (by simp only [kf,XU,Us,Zh,decide_true,X6,XP,Ut,Uo,Xv,Xm,ne_eq,not_true_eq_false,not_false_eq_true,a,d.ok,X,G];rfl) (by kernel_rfl),⟨by simp [Jr,Z5],by simp,by simp,by intro x hx;rw [Uh] at hx;subst hx;exact J,by simp,by simp,Ws,Wh,Zan⟩,fun h=>⟨YL,JX,JC⟩⟩
  ·refine Zc (P4 (by kernel_rfl)) (Zb (ZA l _) fun _ _=>Zb (place _ 3 (by omega) (by omega)) fun c u=>?_);have a:Jo c=Xb:=by simp only [Jo,P5];omega
   refine Zc (P4 (by kernel_rfl)) (Zb (ZA l _) fun _ _=>Zb (s22 _) fun r ⟨op,b,d⟩=>?_);subst b
   iterate 3 refine Zc (P3 (Zt (by kernel_rfl))) ?_
   refine Zc (P4 (by kernel_rfl)) ?_;refine Zb (ZA l 6) fun _ _=>Zb (place _ 20 (by omega) (by omega)) fun H ag=>?_;have C:Zcq H=Xb:=by simp only [Zcq,P5];omega
   exact Zf ⟨⟨5,v,k,o,0,c,0,op,H,Xc,Jr,[],[],[],[],0,ZW,Zk,Zn⟩,rfl,J8 ⟨5,v,k,o,0,c,0,op,H,Xc,Jr,[],[],[],[],0,ZW,Zk,Zn⟩ 5 rfl (by decide) (by decide) w s t (by simp only [kf,XU,Us,Zh,decide_true,X6,XP,Ut,Uo,Xv,Xm,ne_eq,not_true_eq_false,not_false_eq_true,a,d.ok,C]) (by kernel_rfl),⟨by simp [Jr,Z5],by simp,by simp,by simp,by simp,by simp,Ws,Wh,Zan⟩,fun h=>⟨YL,JX,JC⟩⟩
  ·refine Zc (P4 (by kernel_rfl)) (Zb (ZA l _) fun _ _=>Zb (place _ 3 (by omega) (by omega)) fun c u=>?_);have a:Jo c=Xb:=by simp only [Jo,P5];omega
   refine Zc (P4 (by kernel_rfl)) (Zb (ZA l _) fun _ _=>Zb (s22 _) fun r ⟨op,b,d⟩=>?_);subst b
   iterate 4 refine Zc (P3 (Zt (by kernel_rfl))) ?_
   refine Zc (P4 (by kernel_rfl)) ?_;refine Zb (s24 l 6 (by omega)) fun r ⟨L,b,M,A⟩=>?_;subst b;refine Zb (s26 L (by omega)) fun r ⟨is,b,ai,aj⟩=>?_;subst b;exact Zf ⟨⟨6,v,k,o,0,c,0,op,0,Xc,Jr,is,[],[],[],0,ZW,Zk,Zn⟩,rfl,J8 ⟨6,v,k,o,0,c,0,op,0,Xc,Jr,is,[],[],[],0,ZW,Zk,Zn⟩ 6 rfl (by decide) (by decide) w s t (by simp only [kf,XU,Us,Zh,decide_true,X6,XP,Ut,Uo,Xv,Xm,ne_eq,not_true_eq_false,not_false_eq_true,a,d.ok,Xo.2 aj,show is.length≤64 by omega]) (by kernel_rfl),⟨by simp [Jr,Z5],ai,by simp,by simp,by simp,by simp,Ws,Wh,Zan⟩,fun h=>⟨YL,JX,JC⟩⟩
  ·refine Zc (P4 (by kernel_rfl)) (Zb (ZA l _) fun _ _=>Zb (place _ 3 (by omega) (by omega)) fun c u=>?_);have a:Jo c=Xb:=by simp only [Jo,P5];omega
   refine Zc (P4 (by kernel_rfl)) (Zb (ZA l _) fun _ _=>Zb (s22 _) fun r ⟨op,b,d⟩=>?_);subst b
   iterate 9 refine Zc (P3 (Zt (by kernel_rfl))) ?_
   exact Zf ⟨⟨7,v,k,o,0,c,0,op,0,Xc,Jr,[],[],[],[],0,ZW,Zk,Zn⟩,rfl,J8 ⟨7,v,k,o,0,c,0,op,0,Xc,Jr,[],[],[],[],0,ZW,Zk,Zn⟩ 7 rfl (by decide) (by decide) w s t (by simp only [kf,XU,Us,Zh,decide_true,X6,XP,Ut,Uo,Xv,Xm,ne_eq,not_true_eq_false,not_false_eq_true,a,d.ok]) (by kernel_rfl),⟨by simp [Jr,Z5],by simp,by simp,by simp,by simp,by simp,Ws,Wh,Zan⟩,fun h=>⟨YL,JX,JC⟩⟩
  ·refine Zc (P4 (by kernel_rfl)) (Zb (ZA l _) fun _ _=>Zb (place _ 3 (by omega) (by omega)) fun c u=>?_);have a:Jo c=Xb:=by simp only [Jo,P5];omega
   refine Zc (P4 (by kernel_rfl)) (Zb (ZA l _) fun _ _=>Zb (s22 _) fun r ⟨op,b,d⟩=>?_);subst b
   iterate 9 refine Zc (P3 (Zt (by kernel_rfl))) ?_
   exact Zf ⟨⟨8,v,k,o,0,c,0,op,0,Xc,Jr,[],[],[],[],0,ZW,Zk,Zn⟩,rfl,J8 ⟨8,v,k,o,0,c,0,op,0,Xc,Jr,[],[],[],[],0,ZW,Zk,Zn⟩ 8 rfl (by decide) (by decide) w s t (by simp only [kf,XU,Us,Zh,decide_true,X6,XP,Ut,Uo,Xv,Xm,ne_eq,not_true_eq_false,not_false_eq_true,a,d.ok]) (by kernel_rfl),⟨by simp [Jr,Z5],by simp,by simp,by simp,by simp,by simp,Ws,Wh,Zan⟩,fun h=>⟨YL,JX,JC⟩⟩
  ·refine Zc (P4 (by kernel_rfl)) (Zb (ZA l _) fun _ _=>Zb (place _ 3 (by omega) (by omega)) fun c u=>?_);have a:Jo c=Xb:=by simp only [Jo,P5];omega
   refine Zc (P4 (by kernel_rfl)) (Zb (ZA l _) fun _ _=>Zb (s22 _) fun r ⟨op,b,d⟩=>?_);subst b
   iterate 9 refine Zc (P3 (Zt (by kernel_rfl))) ?_
   exact Zf ⟨⟨9,v,k,o,0,c,0,op,0,Xc,Jr,[],[],[],[],0,ZW,Zk,Zn⟩,rfl,J8 ⟨9,v,k,o,0,c,0,op,0,Xc,Jr,[],[],[],[],0,ZW,Zk,Zn⟩ 9 rfl (by decide) (by decide) w s t (by simp only [kf,XU,Us,Zh,decide_true,X6,XP,Ut,Uo,Xv,Xm,ne_eq,not_true_eq_false,not_false_eq_true,a,d.ok]) (by kernel_rfl),⟨by simp [Jr,Z5],by simp,by simp,by simp,by simp,by simp,Ws,Wh,Zan⟩,fun h=>⟨YL,JX,JC⟩⟩
  ·refine Zc (P4 (by kernel_rfl)) (Zb (ZA l _) fun _ _=>Zb (place _ 3 (by omega) (by omega)) fun c u=>?_);have a:Jo c=Xb:=by simp only [Jo,P5];omega
   refine Zc (P4 (by kernel_rfl)) (Zb (ZA l _) fun _ _=>Zb (s22 _) fun r ⟨op,b,d⟩=>?_);subst b
   iterate 9 refine Zc (P3 (Zt (by kernel_rfl))) ?_
   exact Zf ⟨⟨10,v,k,o,0,c,0,op,0,Xc,Jr,[],[],[],[],0,ZW,Zk,Zn⟩,rfl,J8 ⟨10,v,k,o,0,c,0,op,0,Xc,Jr,[],[],[],[],0,ZW,Zk,Zn⟩ 10 rfl (by decide) (by decide) w s t (by simp only [kf,XU,Us,Zh,decide_true,X6,XP,Ut,Uo,Xv,Xm,ne_eq,not_true_eq_false,not_false_eq_true,a,d.ok]) (by kernel_rfl),⟨by simp [Jr,Z5],by simp,by simp,by simp,by simp,by simp,Ws,Wh,Zan⟩,fun h=>⟨YL,JX,JC⟩⟩
  ·refine Zc (P4 (by kernel_rfl)) (Zb (ZA l _) fun _ _=>Zb (place _ 3 (by omega) (by omega)) fun c u=>?_);have a:Jo c=Xb:=by simp only [Jo,P5];omega
   refine Zc (P4 (by kernel_rfl)) (Zb (ZA l _) fun _ _=>Zb (s22 _) fun r ⟨op,b,d⟩=>?_);subst b
   iterate 9 refine Zc (P3 (Zt (by kernel_rfl))) ?_
   exact Zf ⟨⟨11,v,k,o,0,c,0,op,0,Xc,Jr,[],[],[],[],0,ZW,Zk,Zn⟩,rfl,J8 ⟨11,v,k,o,0,c,0,op,0,Xc,Jr,[],[],[],[],0,ZW,Zk,Zn⟩ 11 rfl (by decide) (by decide) w s t (by simp only [kf,XU,Us,Zh,decide_true,X6,XP,Ut,Uo,Xv,Xm,ne_eq,not_true_eq_false,not_false_eq_true,a,d.ok]) (by kernel_rfl),⟨by simp [Jr,Z5],by simp,by simp,by simp,by simp,by simp,Ws,Wh,Zan⟩,fun h=>⟨YL,JX,JC⟩⟩
  ·refine Zc (P3 (Zt (by kernel_rfl))) (Zc (P4 (by kernel_rfl)) (Zb (ZA l _) fun _ _=>Zb (place _ 5 (by omega) (by omega)) fun g y=>?_));have j:JR g=Xb:=by simp only [JR,P5];omega
   iterate 5 refine Zc (P3 (Zt (by kernel_rfl))) ?_
   refine Zc (P4 (by kernel_rfl)) ?_;refine Zb (ZA l 6) fun _ _=>Zb (s27 _) fun r ⟨cs,b,D,E⟩=>?_;subst b;exact Zf ⟨⟨12,v,k,o,g,0,0,zid,0,Xc,Jr,[],[],cs,[],0,ZW,Zk,Zn⟩,rfl,J8 ⟨12,v,k,o,g,0,0,zid,0,Xc,Jr,[],[],cs,[],0,ZW,Zk,Zn⟩ 12 rfl (by decide) (by decide) w s t (by simp only [kf,XU,Us,Zh,decide_true,X6,XP,Ut,Uo,Xv,Xm,ne_eq,not_true_eq_false,not_false_eq_true,j,E]) (by kernel_rfl),⟨by simp [Jr,Z5],by simp,by simp,by simp,D,by simp,Ws,Wh,Zan⟩,fun h=>⟨YL,JX,JC⟩⟩
  ·refine Zc (P3 (Zt (by kernel_rfl))) (Zc (P4 (by kernel_rfl)) (Zb (ZA l _) fun _ _=>Zb (place _ 5 (by omega) (by omega)) fun g y=>?_));have j:JR g=Xb:=by simp only [JR,P5];omega
   iterate 6 refine Zc (P3 (Zt (by kernel_rfl))) ?_
   refine Zc (P4 (by kernel_rfl)) ?_;refine Zb (s24 l 6 (by omega)) fun r ⟨L,b,M,A⟩=>?_;subst b;refine Zb (s28 L f n R hn) fun r ⟨p,b,hp,ak⟩=>?_;subst b;exact Zf ⟨⟨13,v,k,o,g,0,0,zid,0,Xc,Jr,[],[],[],[],0,ZW,Zk,p⟩,rfl,J8 ⟨13,v,k,o,g,0,0,zid,0,Xc,Jr,[],[],[],[],0,ZW,Zk,p⟩ 13 rfl (by decide) (by decide) w s t (by simp only [kf,XU,Us,Zh,decide_true,X6,XP,Ut,Uo,Xv,Xm,ne_eq,not_true_eq_false,not_false_eq_true,j,hp.ok]) (by kernel_rfl),⟨by simp [Jr,Z5],by simp,by simp,by simp,by simp,by simp,Ws,Wh,hp⟩,fun h=>⟨YL,JX,ak (A h)⟩⟩
  ·refine Zc (P3 (Zt (by kernel_rfl))) (Zc (P4 (by kernel_rfl)) (Zb (ZA l _) fun _ _=>Zb (place _ 5 (by omega) (by omega)) fun g y=>?_));have j:JR g=Xb:=by simp only [JR,P5];omega
   iterate 7 refine Zc (P3 (Zt (by kernel_rfl))) ?_
   refine Zc (P4 (by kernel_rfl)) ?_;refine Zb (ZA l 5) fun _ _=>Zb (place _ 70 (by omega) (by omega)) fun bs aq=>?_;have Y:JR bs=Xb:=by simp only [JR,P5];omega
   refine Zb (ZA l 6) fun _ _=>Zb (s27 _) fun r ⟨cs,b,D,E⟩=>?_;subst b;refine Zb (s24 l 7 (by omega)) fun r ⟨L,b,M,A⟩=>?_;subst b;refine Zb (s29 L) fun r ⟨nv,b,Z⟩=>?_;subst b;refine Zb (s24 l 8 (by omega)) fun r ⟨l2,b,ar,al⟩=>?_;subst b;refine Zb (ZA l 9) fun _ _=>Zb (place _ 4 (by omega) (by omega)) fun c9 au=>?_;refine Zb (s30 l2 f n R hn c9) fun r ⟨ss,b,aa,am⟩=>?_;subst b;exact Zf ⟨⟨14,v,k,o,g,0,0,zid,0,Xc,Jr,[],[],cs,[],bs,nv,ss,Zn⟩,rfl,J8 ⟨14,v,k,o,g,0,0,zid,0,Xc,Jr,[],[],cs,[],bs,nv,ss,Zn⟩ 14 rfl (by decide) (by decide) w s t (by simp only [kf,XU,Us,Zh,decide_true,X6,XP,Ut,Uo,Xv,Xm,ne_eq,not_true_eq_false,not_false_eq_true,j,Y,E,Z.ok,aa.ok]) (by kernel_rfl),⟨by simp [Jr,Z5],by simp,by simp,by simp,D,by simp,Z,aa.short R,Zan⟩,fun h=>⟨YL,am (al h),JC⟩⟩
  ·refine Zc (P3 (Zt (by kernel_rfl))) (Zc (P4 (by kernel_rfl)) (Zb (ZA l _) fun _ _=>Zb (place _ 5 (by omega) (by omega)) fun g y=>?_));have j:JR g=Xb:=by simp only [JR,P5];omega
   iterate 9 refine Zc (P3 (Zt (by kernel_rfl))) ?_
   exact Zf ⟨⟨15,v,k,o,g,0,0,zid,0,Xc,Jr,[],[],[],[],0,ZW,Zk,Zn⟩,rfl,J8 ⟨15,v,k,o,g,0,0,zid,0,Xc,Jr,[],[],[],[],0,ZW,Zk,Zn⟩ 15 rfl (by decide) (by decide) w s t (by simp only [kf,XU,Us,Zh,decide_true,X6,XP,Ut,Uo,Xv,Xm,ne_eq,not_true_eq_false,not_false_eq_true,j]) (by kernel_rfl),⟨by simp [Jr,Z5],by simp,by simp,by simp,by simp,by simp,Ws,Wh,Zan⟩,fun h=>⟨YL,JX,JC⟩⟩
  ·refine Zc (P3 (Zt (by kernel_rfl))) (Zc (P4 (by kernel_rfl)) (Zb (ZA l _) fun _ _=>Zb (place _ 5 (by omega) (by omega)) fun g y=>?_));have j:JR g=Xb:=by simp only [JR,P5];omega
   iterate 9 refine Zc (P3 (Zt (by kernel_rfl))) ?_
   exact Zf ⟨⟨16,v,k,o,g,0,0,zid,0,Xc,Jr,[],[],[],[],0,ZW,Zk,Zn⟩,rfl,J8 ⟨16,v,k,o,g,0,0,zid,0,Xc,Jr,[],[],[],[],0,ZW,Zk,Zn⟩ 16 rfl (by decide) (by decide) w s t (by simp only [kf,XU,Us,Zh,decide_true,X6,XP,Ut,Uo,Xv,Xm,ne_eq,not_true_eq_false,not_false_eq_true,j]) (by kernel_rfl),⟨by simp [Jr,Z5],by simp,by simp,by simp,by simp,by simp,Ws,Wh,Zan⟩,fun h=>⟨YL,JX,JC⟩⟩
  ·refine Zc (P3 (Zt (by kernel_rfl))) (Zc (P3 (Zt (by kernel_rfl))) ?_)
   iterate 8 refine Zc (P3 (Zt (by kernel_rfl))) ?_
   refine Zc (P4 (by kernel_rfl)) ?_;refine Zb (ZA l 6) fun _ _=>Zb (s27 _) fun r ⟨cs,b,D,E⟩=>?_;subst b;refine Zl8 (ZED l ⟨17,v,k,o,0,0,0,zid,0,Xc,Jr,[],[],cs,[],0,ZW,Zk,Zn⟩) fun r ⟨N,b,O,Q⟩=>?_;exact ⟨⟨17,v,k,o,0,0,0,zid,0,Xc,Jr,[],[],cs,N,0,ZW,Zk,Zn⟩,b,J8 ⟨17,v,k,o,0,0,0,zid,0,Xc,Jr,[],[],cs,N,0,ZW,Zk,Zn⟩ 17 rfl (by decide) (by decide) w s t (by simp only [kf,XU,Us,Zh,decide_true,X6,XP,Ut,Uo,Xv,Xm,ne_eq,not_true_eq_false,not_false_eq_true,E,Xo.2 Q,show N.length≤16 by omega]) (by kernel_rfl),⟨by simp [Jr,Z5],by simp,by simp,by simp,D,O,Ws,Wh,Zan⟩,fun h=>⟨YL,JX,JC⟩⟩
def e9:g12 3 1 0 2 0 1 0 0 5 0 0 Xc 0 0 0 0 0 0 0 0 0 0 0 0 0 0 0 0 0 0 0 0 E0 0 0 0 0 0 0 Xc E0 E0 E0 E0 0 0 E0 E0 E0 E0 E0 E0 E0 E0 0 0 E0 E0 E0 E0 E0 E0 E0 E0 Xc 0 E0 E0 E0 E0 E0 E0 E0 E0=Xa Xb:=by kernel_rfl
def e7:g14 3 1 0 2 0 1 0 0 5 0 0 Xc 0 0 0 0 0 0 0 0 0 0 0 0 0 0 0 0 0 0 0 0 E0 0 0 0 0 0 0 Xc E0 E0 E0 E0 0 0 E0 E0 E0 E0 E0 E0 E0 E0 0 0 E0 E0 E0 E0 E0 E0 E0 E0 Xc 0 E0 E0 E0 E0 E0 E0 E0 E0=Xa ((Za [3,1,0,2,1,0,5,0]),0):=by kernel_rfl
def e17:g19 3 1 0 2 0 1 0 0 5 0 0 Xc 0 0 0 0 0 0 0 0 0 0 0 0 0 0 0 0 0 0 0 0 E0 0 0 0 0 0 0 Xc E0 E0 E0 E0 0 0 E0 E0 E0 E0 E0 E0 E0 E0 0 0 E0 E0 E0 E0 E0 E0 E0 E0 Xc 0 E0 E0 E0 E0 E0 E0 E0 E0 3 1 0 2 0 1 0 0 5 0 0 Xc 0 0 0 0 0 0 0 0 0 0 0 0 0 0 0 0 0 0 0 0 E0 0 0 0 0 0 0 Xc E0 E0 E0 E0 0 0 E0 E0 E0 E0 E0 E0 E0 E0 0 0 E0 E0 E0 E0 E0 E0 E0 E0 Xc 0 E0 E0 E0 E0 E0 E0 E0 E0=Xa Xb:=by kernel_rfl
def e16:g17 (Za [3,1,0,2,1,0,5,0])=Xa (3,1,0,2,0,1,0,0,5,0,0,Xc,0,0,0,0,0,0,0,0,0,0,0,0,0,0,0,0,0,0,0,0,E0,0,0,0,0,0,0,Xc,E0,E0,E0,E0,0,0,E0,E0,E0,E0,E0,E0,E0,E0,0,0,E0,E0,E0,E0,E0,E0,E0,E0,Xc,0,E0,E0,E0,E0,E0,E0,E0,E0,0):=by kernel_rfl
def s9:g9=Xa Xb:=by
 rw [ZHX,e7,Xd];dsimp only;rw [e16,Xd];dsimp only [d2,d4,d8,P2,d6,df,dg,dh,di,dj,dk,dl];rw [e17,e9];refine Jf (fun _=>?_) fun h=>absurd (by decide) h;refine Jf (fun _=>?_) fun h=>absurd (by decide) h;refine Ztt (of_decide_eq_true (by kernel_rfl)) ?_;refine Jf (fun _=>rfl) fun h=>absurd (by rw [ByteArray.toList_eq,ByteArray.toList_eq];decide) h
def ZB8 (a b:Int):P1 .and .i64 a b=(BitVec.ofInt 64 a&&& BitVec.ofInt 64 b).toInt:=by
 show Xi .i64 (((BitVec.ofInt 64 a&&& BitVec.ofInt 64 b).toNat:Nat):Int)=_;generalize BitVec.ofInt 64 a&&& BitVec.ofInt 64 b=x;have:=x.isLt;rw [BitVec.toInt_eq_toNat_cond];simp only [Xi];have f:IntKind.i64.signed=Xb:=rfl;have g:IntKind.i64.bits=64:=rfl;have c:(2:Nat)^64=18446744073709551616:=by decide
 have d:(2:Int)^64=18446744073709551616:=by decide
 have e:(2:Int)^(64-1)=9223372036854775808:=by decide
 simp only [f,g,if_true,XP,P5,d,e];rw [c] at this ⊢;by_cases hx:2*x.toNat < 18446744073709551616
 ·rw [P4 hx];omega
 ·rw [P3 hx];omega
def ZB (l:List Int):(Za l).length=l.length:=by simp [Za]
def Zdb {l:List Int} (h:Zq l):Zeg (Za l):=by
 intro e b;obtain ⟨z,a,rfl⟩:=List.mem_map.1 b;exact ⟨z,(h z a).1,(h z a).2,rfl⟩
def Zsu {l:List Int} {i:Nat} {z:Int} (h:l[i]? = Xa z):(Za l)[i]? = Xa [AV.val (.int .u8 z)]:=by
 simp [Za,h,u8c]
def ZC {γ:Type} {l:List Int} {i:Int} {z:Int} (k:Int→Option γ) (a:0≤i) (h:l[i.toNat]? = Xa z):Zj (Za l) i [.int .u8] k=k z:=
 Y2 (sh:=[.int .u8]) (r:=z) k a (Zsu h) rfl
def ZeK (z:Int):Xi .u8 z=z % 256:=by
 have a:IntKind.u8.bits=8:=rfl;have b:IntKind.u8.signed=Xc:=rfl;simp [Xi,a,b]
def Zen {a:Int} {n:Nat} (h:n≤64):P1 .shr .i64 a n=a / 2^n:=by
 have b:min ((n:Int)).toNat IntKind.i64.bits=n:=by
  have:IntKind.i64.bits=64:=rfl;omega
 simp only [P1,b];rw [Int.fdiv_eq_ediv_of_nonneg _ (by have:=Yn n;omega)]
def ZhU (x:Int):Xi .u8 (P1 .and .i64 x 255)=Xi .u8 x:=by
 rw [ZeK,ZeK,ZB8,BitVec.toInt_eq_toNat_cond]
 have d:(BitVec.ofInt 64 x&&& BitVec.ofInt 64 255).toNat=(x % 2^64).toNat % 256:=by
  rw [BitVec.toNat_and,BitVec.toNat_ofInt,BitVec.toNat_ofInt];have a:((255:Int) % ((2^64:Nat):Int)).toNat=2^8-1:=by decide
  rw [a,Nat.and_two_pow_sub_one_eq_mod];rfl
 have b:(2:Int)^64=18446744073709551616:=by decide
 have c:(2:Nat)^64=18446744073709551616:=by decide
 rw [d,b,c];split<;>omega
def Jv (c:Cap):List Int:=[c.kind,c.bits,c.rights+(if c.device=Xb then 8 else 0),c.width,c.level,c.base % 256,c.base / 256 % 256,c.base / 65536 % 256,c.base / 16777216 % 256,c.base / 4294967296 % 256]
def ZcW (c:Cap):List Int:=if YH c=Xb then Jv c else []
def ZtL (c:Cap):Int:=if YH c=Xb then 0 else 1
def Zbx {c:Cap} (h:YH c=Xb):1≤c.kind∧c.kind≤6∧6≤c.bits∧c.bits≤40∧0≤c.rights∧c.rights≤7∧0≤c.width∧c.width≤39∧0≤c.level∧c.level≤2∧0≤c.base∧c.base < 1099511627776:=by
 obtain ⟨d,e,f,g,i⟩:=Zdk (ZqW h);have j:=Yn c.bits.toNat;simp only [YH,Xj,P5] at h;obtain ⟨⟨⟨⟨b,k⟩,l⟩,a⟩,m⟩:=h;simp only [Wx,P5] at b
 have n:0≤c.width∧c.width≤39∧0≤c.level∧c.level≤2:=by
  split at a
  ·simp only [ZcT,P5] at a;omega
  ·simp only [P5] at a;omega
 omega
def room1 {a b:List (List AV)} (c:a.length≤200000000000) (d:b.length≤200000000000):Z6 a b 1:=by
 unfold Z6 Yh;omega
def Zng {f:Nat} {k b s r w l:Int} {d:Bool} {x0 x1 x2 x3 x4:Int} : Zif (f+1+1+1+1+1+1) k b s r w l d (Za [x0,x1,x2,x3,x4]) 0 =
  Xa (Za [x0,x1,x2,x3,x4,b % 256,b / 256 % 256,b / 65536 % 256,b / 16777216 % 256,b / 4294967296 % 256],0):=by
 have a:P1 .shr .i64 b (P1 .mul .i64 8 0)=b:=by rw [show P1 .mul .i64 8 0=((0:Nat):Int) by decide,Zen (by decide)];simp
 have c:P1 .shr .i64 b (P1 .mul .i64 8 1)=b / 256:=by rw [show P1 .mul .i64 8 1=((8:Nat):Int) by decide,Zen (by decide)];rfl
 have e:P1 .shr .i64 b (P1 .mul .i64 8 2)=b / 65536:=by rw [show P1 .mul .i64 8 2=((16:Nat):Int) by decide,Zen (by decide)];rfl
 have g:P1 .shr .i64 b (P1 .mul .i64 8 3)=b / 16777216:=by rw [show P1 .mul .i64 8 3=((24:Nat):Int) by decide,Zen (by decide)];rfl
 have h:P1 .shr .i64 b (P1 .mul .i64 8 4)=b / 4294967296:=by rw [show P1 .mul .i64 8 4=((32:Nat):Int) by decide,Zen (by decide)];rfl
 rw [VX,P4 (by decide),Zg (by decide),Zg (room1 (by simp [Za]) (by simp)),a,show P1 .add .i64 0 1=1 by decide,
  VX,P4 (by decide),Zg (by decide),Zg (room1 (by simp [Za]) (by simp)),c,show P1 .add .i64 1 1=2 by decide,
  VX,P4 (by decide),Zg (by decide),Zg (room1 (by simp [Za]) (by simp)),e,show P1 .add .i64 2 1=3 by decide,
  VX,P4 (by decide),Zg (by decide),Zg (room1 (by simp [Za]) (by simp)),g,show P1 .add .i64 3 1=4 by decide,
  VX,P4 (by decide),Zg (by decide),Zg (room1 (by simp [Za]) (by simp)),h,show P1 .add .i64 4 1=5 by decide,
  VX,P3 (by decide)]
 simp only [ZeK];rfl
def ZKU (k b s r w l:Int) (d:Bool):ZEH k b s r w l d=Xa (Za (ZcW ⟨k,b,s,r,w,l,d⟩),ZtL ⟨k,b,s,r,w,l,d⟩):=by
 rw [Zxv,ZGy];simp only [Xd]
 cases hc:YH ⟨k,b,s,r,w,l,d⟩ with
 | false => simp [ZcW, ZtL, hc, Za]
 | true =>
  obtain ⟨g,h,i,j,m,n,o,p,q,a,c,e⟩:=Zbx hc;simp only at g h i j m n o p q a c e;have t:P1 .add .i64 r 8=r+8:=JE (by omega) (by omega);have u:k % 256=k:=by omega
  have v:s % 256=s:=by omega
  have x:r % 256=r:=by omega
  have y:(r+8) % 256=r+8:=by omega
  have z:w % 256=w:=by omega
  have A:l % 256=l:=by omega
  obtain ⟨f,C⟩:=Zlj;simp only [Bool.not_true,Xw,if_false,ZeK,t,u,v,x,y,z,A,C]
  cases d
  ·have:=Zng (f:=f) (k:=k) (b:=b) (s:=s) (r:=r) (w:=w) (l:=l) (d:=Xc) (x0:=k) (x1:=s) (x2:=r) (x3:=w) (x4:=l);rw [P3 (by simp)];simp only [ZcW,ZtL,hc,if_true,Jv,Xw,if_false,Int.add_zero];exact this
  ·have:=Zng (f:=f) (k:=k) (b:=b) (s:=s) (r:=r) (w:=w) (l:=l) (d:=Xb) (x0:=k) (x1:=s) (x2:=r+8) (x3:=w) (x4:=l);rw [P4 rfl];simp only [ZcW,ZtL,hc,if_true,Jv];exact this
def ZiC {f:Nat} {k b s r w l:Int} {d:Bool} {x0 x1 x2 x3 x4:Int} : ZiJ (f+1+1+1+1+1+1) k b s r w l d (Za [x0,x1,x2,x3,x4]) 0 =
  Xa (Za [x0,x1,x2,x3,x4,b % 256,b / 256 % 256,b / 65536 % 256,b / 16777216 % 256,b / 4294967296 % 256],0):=by
 have a:Xi .u64 (P1 .mul .i64 8 0)=((0:Nat):Int):=by decide
 have c:Xi .u64 (P1 .mul .i64 8 1)=((8:Nat):Int):=by decide
 have e:Xi .u64 (P1 .mul .i64 8 2)=((16:Nat):Int):=by decide
 have g:Xi .u64 (P1 .mul .i64 8 3)=((24:Nat):Int):=by decide
 have h:Xi .u64 (P1 .mul .i64 8 4)=((32:Nat):Int):=by decide
 have i:P1 .shr .i64 b ((0:Nat):Int)=b:=by rw [Zen (by decide)];simp
 have j:P1 .shr .i64 b ((8:Nat):Int)=b / 256:=Zen (by decide);have m:P1 .shr .i64 b ((16:Nat):Int)=b / 65536:=Zen (by decide);have n:P1 .shr .i64 b ((24:Nat):Int)=b / 16777216:=Zen (by decide);have o:P1 .shr .i64 b ((32:Nat):Int)=b / 4294967296:=Zen (by decide)
 rw [VU,P4 (by decide),Zg (by decide),Zg (room1 (by simp [Za]) (by simp)),ZhU,a,i,show P1 .add .i64 0 1=1 by decide,
  VU,P4 (by decide),Zg (by decide),Zg (room1 (by simp [Za]) (by simp)),ZhU,c,j,show P1 .add .i64 1 1=2 by decide,
  VU,P4 (by decide),Zg (by decide),Zg (room1 (by simp [Za]) (by simp)),ZhU,e,m,show P1 .add .i64 2 1=3 by decide,
  VU,P4 (by decide),Zg (by decide),Zg (room1 (by simp [Za]) (by simp)),ZhU,g,n,show P1 .add .i64 3 1=4 by decide,
  VU,P4 (by decide),Zg (by decide),Zg (room1 (by simp [Za]) (by simp)),ZhU,h,o,show P1 .add .i64 4 1=5 by decide,
  VU,P3 (by decide)]
 simp only [ZeK];rfl
def ZKC (k b s r w l:Int) (d:Bool):ZE8 k b s r w l d=Xa (Za (ZcW ⟨k,b,s,r,w,l,d⟩),ZtL ⟨k,b,s,r,w,l,d⟩):=by
 rw [ZvN,ZBg];simp only [Xd]
 cases hc:YH ⟨k,b,s,r,w,l,d⟩ with
 | false => simp [ZcW, ZtL, hc, Za]
 | true =>
  obtain ⟨g,h,i,j,m,n,o,p,q,a,c,e⟩:=Zbx hc;simp only at g h i j m n o p q a c e;have t:P1 .add .i64 r 8=r+8:=JE (by omega) (by omega);have u:k % 256=k:=by omega
  have v:s % 256=s:=by omega
  have x:r % 256=r:=by omega
  have y:(r+8) % 256=r+8:=by omega
  have z:w % 256=w:=by omega
  have A:l % 256=l:=by omega
  obtain ⟨f,C⟩:=Zlj;simp only [Bool.not_true,Xw,if_false,ZeK,t,u,v,x,y,z,A,C]
  cases d
  ·have:=ZiC (f:=f) (k:=k) (b:=b) (s:=s) (r:=r) (w:=w) (l:=l) (d:=Xc) (x0:=k) (x1:=s) (x2:=r) (x3:=w) (x4:=l);rw [P3 (by simp)];simp only [ZcW,ZtL,hc,if_true,Jv,Xw,if_false,Int.add_zero];exact this
  ·have:=ZiC (f:=f) (k:=k) (b:=b) (s:=s) (r:=r) (w:=w) (l:=l) (d:=Xb) (x0:=k) (x1:=s) (x2:=r+8) (x3:=w) (x4:=l);rw [P4 rfl];simp only [ZcW,ZtL,hc,if_true,Jv];exact this
end
end Go.Proofs.YtjldbnbdcmfbmaaGreat
