import Derived.Test.YtnkmbgbpkgmbnaaGreatM5
import Derived.Test.YtnkmbgbpkgmbnaaGreatFQn
import Derived.Lib.SlicesCompact
open Option renaming some→Xa,bind_some→Xj,bind→UK
open Bool renaming false→Xb,true→Xc,and_eq_true→Xk,not_eq_true'→XJ,false_eq_true→XQ,not_eq_true→XT,or_eq_true→XX,not_eq_false→Ub,not_eq_false'→Ue,true_eq_false→Ug,eq_false_iff→UL,not_true→Ti,true_and→Tx,false_ne_true→TI
open Option.some renaming injEq→Xf
open List renaming length→Xg,length_map→Xi,getElem?_eq_getElem→Xm,mem_of_getElem?→Xo,getElem?_map→Xp,mem_append→Xq,mem_cons→Xr,mem_map→Xs,length_take→Xu,replicate→Xv,take→Xy,drop→Xz,append_assoc→XB,getElem_mem→XC,length_append→XD,all_eq_true→XE,mem_singleton→XF,range→XK,mem_of_mem_take→XL,length_cons→XO,mem_of_mem_drop→XR,length_drop→XV,mem_iff_getElem?→X6,nil_append→X9,take_of_length_le→Uc,mem_iff_getElem→Ud,mem_range→Uf,length_nil→Ui,map_take→Um,map_drop→Uq,getElem?_eq_none→Ur,any_eq_true→Ut,mem_filter→Uu,pairwise_iff_getElem→UB,any_eq_false→UC,mem_cons_of_mem→UD,mem_of_find?_eq_some→UE,append_nil→UG,take_append_drop→UH,ext_getElem?→UO,contains_iff_mem→US,getElem_of_mem→UU,all_cons→UV,drop_of_length_le→U2,range'→U3,drop_zero→U6,take_add_one→U8,length_filter_le→U9,pairwise_cons→Ta,getElem?_modify→Te,drop_eq_getElem_cons→Tj,getElem_take→Tk,foldl_cons→Tm,singleton_append→Tt,pairwise_singleton→Ty,getElem_drop→TN,length_singleton→TO,getElem?_range→TU,getElem?_replicate→T0,pairwise_append→T1,any_eq_not_all_not→T6
open Int renaming toNat→Xh,toNat_natCast→Ua,le_refl→Uk,ofNat_lt→UM,toNat_of_nonneg→U7,mul_le_mul_of_nonneg_right→Tw,dvd_of_emod_eq_zero→T5
open Go.IntKind renaming wrap→Xl
open Nat renaming le_refl→Xt,le_trans→XN,lt_or_ge→XS,le_of_lt→XU,zero_le→X7,not_lt_zero→UA,lt_irrefl→UT,lt_trichotomy→Th,add_le_add_left→T2
set_option linter.unusedVariables false
set_option linter.unusedSimpArgs false
set_option linter.defProp false
namespace Go.Proofs.YtnkmbgbpkgmbnaaGreat
open Go Go.AM
set_option maxRecDepth 100000
def KP (k b:Int):Bool:=decide ((k=1∧6≤b∧b≤40)∨(k=2∧12≤b∧b≤40)∨(k=3∧b=12)∨(k=4∧b=6)∨(k=5∧b=10)∨(k=6∧b=16))
def ZAn (k b:Int):ZwL k b=Xa (KP k b):=by
 rw [ZsV]
 repeat' split
 all_goals (refine congrArg Xa ?_;rw [Z6];simp only [KP,CQ] at *; omega)
def ZhZ (k:Int):Int:=if k=3 then 12 else if k=4 then 6 else if k=5 then 10 else if k=6 then 16 else 0
def ZB9 (k:Int):ZzR k=Xa (ZhZ k):=by
 rw [Zrp];simp only [CQ,ZhZ]
 repeat' split
 all_goals first | rfl | omega
def ZAl (k b:Int):ZwP k b=Xa (KP k b):=by
 rw [ZqS];simp only [ZB9,Xj]
 repeat' split
 all_goals (refine congrArg Xa ?_;rw [Z6];simp only [KP,CQ] at *; first | omega | (rcases (by omega:k=3∨k=4∨k=5∨k=6) with rfl | rfl | rfl | rfl<;>simp [ZhZ]))
def W2 (w l:Int):Bool:=decide ((w=32∧0≤l∧l≤1)∨(w=39∧0≤l∧l≤2))
def ZAE (w l:Int):Zxw w l=Xa (W2 w l):=by
 rw [Zr0]
 repeat' split
 all_goals (refine congrArg Xa ?_;rw [Z6];simp only [W2,CQ] at *; omega)
def ZAe (w l:Int):Zw9 w l=Xa (W2 w l):=by
 rw [Zr6]
 repeat' split
 all_goals (refine congrArg Xa ?_;rw [Z6];simp only [W2,CQ] at *; omega)
def JW (a b:Int):Bool:=decide (6≤b∧b≤40∧0≤a∧a % 2^b.toNat=0∧a+2^b.toNat≤1099511627776)
def Ziz {b:Int} (h:b≤40):(2:Int)^b.toNat≤1099511627776:=by
 have:=Zmm (m:=b.toNat) (n:=40) (by omega);have e:(2:Int)^40=1099511627776:=by decide
 omega
def Zid {a:Int} {n:Nat} (h:0≤a):P1 .rem .i64 a (2^n)=a % 2^n:=Int.tmod_eq_emod_of_nonneg h
def ZtI {b:Int} (h:b≤40):P1 .sub .i64 1099511627776 (2^b.toNat)=1099511627776-2^b.toNat:=by
 have:=Ziz h;have:=Ky b.toNat;exact ZbU (by omega) (by omega)
def Zww (a b:Int):Zon a b=Xa (JW a b):=by
 have j:=Ky b.toNat;rw [Zsb];by_cases c:6≤b∧b≤40∧0≤a
 ·obtain ⟨c,d,e⟩:=c;have f:P1 .shl .i64 1 b=2^b.toNat:=ZuG (by omega);have g:Zl ((0:Int)≤b)=fun (x:Option Bool)=>x:=funext fun x=>Zu (by omega) x;have h:Zl (((2:Int)^b.toNat)≠0)=fun (x:Option Bool)=>x:=funext fun x=>Zu (by omega) x;simp only [f,g,h,Zid e,ZtI d]
  repeat' split
  all_goals (refine congrArg Xa ?_;rw [Z6];simp only [JW,CQ] at *; omega)
 ·have i:JW a b=Xb:=by simp only [JW,decide_eq_false_iff_not];omega
  rw [i]
  repeat' split
  all_goals first | rfl | (exfalso;simp only [CQ] at *; omega)
def s26 (a b:Int):g26 a b=Xa (JW a b):=by
 have l:=Ky b.toNat;rw [Zua];by_cases c:6≤b∧b≤40∧0≤a
 ·obtain ⟨c,d,e⟩:=c;have f:Xl .u64 b=b:=ZbC (by omega) (by omega);have g:P1 .shl .i64 1 b=2^b.toNat:=ZuG (by omega);have h:Zl ((0:Int)≤b)=fun (x:Option Bool)=>x:=funext fun x=>Zu (by omega) x;have i:Zl (((2:Int)^b.toNat)≠0)=fun (x:Option Bool)=>x:=funext fun x=>Zu (by omega) x;have j:=Ziz d;simp only [f,g,h,i,Zid e]
  repeat' split
  all_goals (refine congrArg Xa ?_;rw [Z6];simp only [JW,CQ] at *; first | omega | (rw [JP (by omega) (by omega)] at *; omega))
 ·have k:JW a b=Xb:=by simp only [JW,decide_eq_false_iff_not];omega
  rw [k]
  repeat' split
  all_goals first | rfl | (exfalso;simp only [CQ] at *; omega)
def YZ (a b:Int):Int:=if JW a b=Xc then a+2^b.toNat else 0
def W5 {a b:Int} (h:JW a b=Xc):6≤b∧b≤40∧0≤a∧a % 2^b.toNat=0∧a+2^b.toNat≤1099511627776:=by simpa [JW] using h
def ZmF {a b:Int} (h:JW a b=Xc):P1 .add .i64 a (P1 .shl .i64 1 b)=YZ a b:=by
 obtain ⟨c,d,e,f,g⟩:=W5 h;have:=Ky b.toNat;rw [ZuG (by omega),JP (by omega) (by omega),YZ,P4 h]
def Zbi (a b c d:Int):Bool:=JW a b&&JW c d&&decide (a < YZ c d)&&decide (c < YZ a b)
def inB (a b c d:Int):Bool:=JW a b&&JW c d&&decide (a≤c)&&decide (YZ c d≤YZ a b)
structure Cap where
 g:Int
 t:Int
 h:Int
 j:Int
 i:Int
 f:Int
 m:Bool
def Zxr (k b s r w l:Int) (d:Bool):ZsY k b s r w l d=Xa (b,s):=Zrg ..
def s32 (k b s r w l:Int) (d:Bool):g32 k b s r w l d=Xa (b,s):=ZtH ..
def J0 (c:Cap):Bool:=KP c.g c.h&&JW c.t c.h&&decide (0≤c.j∧c.j≤7)&&(if c.g=3 then W2 c.i c.f else decide (c.i=0∧c.f=0))&&(!c.m||decide (c.g=1)||decide (c.g=2))
def Zy6 (k b s r w l:Int) (d:Bool):ZuT k b s r w l d=Xa (J0 ⟨k,b,s,r,w,l,d⟩):=by
 rw [Zq5];simp only [ZAn,Zxr,Zww,ZAE,Xj]
 repeat' split
 all_goals (refine congrArg Xa ?_;rw [Z6];simp only [J0,CQ] at *; grind)
def ZvR (k b s r w l:Int) (d:Bool):ZqO k b s r w l d=Xa (J0 ⟨k,b,s,r,w,l,d⟩):=by
 rw [Zrn];simp only [ZAl,s32,s26,ZAe,Xj]
 repeat' split
 all_goals (refine congrArg Xa ?_;rw [Z6];simp only [J0,CQ] at *; grind)
def Zmb (obj a b bits r w l:Int) (d:Bool) (j:Nat):List AV:=[I obj,I (a+j*b),I bits,I r,I w,I l,B d]
def JT (obj a b bits r w l:Int) (d:Bool) (n:Nat):List (List AV):=(XK n).map (Zmb obj a b bits r w l d)
def W1 (obj a b bits r w l:Int) (d:Bool) (n:Nat):JT obj a b bits r w l d (n+1)=JT obj a b bits r w l d n++[Zmb obj a b bits r w l d n]:=by
 simp [JT,List.range_succ]
def VB (obj a b bits r w l:Int) (d:Bool) (n:Nat):(JT obj a b bits r w l d n).length=n:=by simp [JT]
def VN {n:Nat} (h:n < 2^64):n < ZG:=by
 have:ZG=1208925819614629174706176:=rfl;omega
def ZaI {a b:List (List AV)} {k:Nat} (h:(a.length+b.length)*(k+1)≤1099511627776):ZB a b k:=h
def ZiS {k b:Int} (h:KP k b=Xc):6≤b∧b≤40:=by
 simp only [KP,P5] at h;omega
def Zfm {c:Cap} (h:J0 c=Xc):JW c.t c.h=Xc:=by
 simp only [J0,Xk] at h;exact h.1.1.1.2
def JN (c:Cap) (obj bits a b off cnt:Int):Int:=
 if J0 c=Xb∨c.g≠1 then 5
 else if P1 .and .i64 c.j 2=0 then 8
 else if KP obj bits=Xb∨(obj=3∧W2 b a=Xb)∨cnt < 1∨8 < cnt∨off < 0 then 1
 else if c.m=Xc∧obj≠1∧obj≠2 then 5
 else if off % 2^bits.toNat≠0∨2^c.h.toNat-cnt*2^bits.toNat < off∨(obj=1∧c.h≤bits) then 6
 else 0
def Yl (c:Cap) (obj bits a b off cnt:Int):List (List AV):=
 if JN c obj bits a b off cnt=0 then JT obj (c.t+off) (2^bits.toNat) bits c.j (if obj=3 then b else 0) (if obj=3 then a else 0) c.m cnt.toNat else []
def Za1 {c:Cap} {obj bits a b off cnt e:Int} (d:e≠0) (h:JN c obj bits a b off cnt=e) :
  Xa (E0,e)=Xa (Yl c obj bits a b off cnt,JN c obj bits a b off cnt):=by
 simp only [Yl,h,P3 d]
def ZiC {c:Cap} {obj bits off cnt:Int} (d:J0 c=Xc) (e:KP obj bits=Xc) (k:1≤cnt) (l:cnt≤8) (m:0≤off) :
  P1 .shl .i64 1 bits=2^bits.toNat∧P1 .rem .i64 off (2^bits.toNat)=off % 2^bits.toNat∧P1 .shl .i64 1 c.h=2^c.h.toNat∧P1 .mul .i64 cnt (2^bits.toNat)=cnt*2^bits.toNat∧
   P1 .sub .i64 (2^c.h.toNat) (cnt*2^bits.toNat)=2^c.h.toNat-cnt*2^bits.toNat∧(2:Int)^bits.toNat≠0∧0≤bits∧0≤c.h∧0≤c.t∧c.t+2^c.h.toNat≤1099511627776∧
   0 < (2:Int)^bits.toNat∧(2:Int)^bits.toNat≤1099511627776∧(2:Int)^bits.toNat≤cnt*2^bits.toNat∧0 < (2:Int)^c.h.toNat∧bits≤40∧c.h≤40:=by
 obtain ⟨n,a⟩:=ZiS e;obtain ⟨o,b,f,p,g⟩:=W5 (Zfm d);have h:=Ky bits.toNat;have i:=Ky c.h.toNat;have j:=Ziz a;have q:=Ziz b;have r:cnt*2^bits.toNat≤8*2^bits.toNat:=Tw (by omega) (by omega);have s:1*2^bits.toNat≤cnt*2^bits.toNat:=Tw (by omega) (by omega);refine ⟨ZuG (by omega),Zid (by omega),ZuG (by omega),ZrN (by omega) (by omega),Zdl (by omega) (by omega),by omega,by omega,by omega,f,g,h,j,by omega,i,a,b⟩
def ZaT {γ:Type} {p:Prop} {_:Decidable p} (h:p):(Zl p:Option γ→Option γ)=fun x=>x:=funext fun x=>Zu h x
def ZzO:∃ f,ZG=f+1+1+1+1+1+1:=⟨ZG-6,by decide⟩
abbrev ZAf:List Sh:=[.int .i64,.int .i64,.int .i64]
def Kq (i:Id):Bool:=decide (0≤i.c∧i.c < 32∧1≤i.op∧i.op≤1073741824∧0≤i.k∧i.k < 8)
def Zp1 (a b:Int):Int:=if a < b then -1 else if b < a then 1 else 0
def WB (x y z:Int):Int:=if x≠0 then x else if y≠0 then y else z
def Zte (a b c d e f:Int):Bool:=decide (a < d∨(a=d∧(b < e∨(b=e∧c < f))))
def Ja (l:List Id):(Zd l).length=l.length:=by simp [Zd]
def ZjA (l:List Id) (n:Nat):(Zd l).take n=Zd (l.take n):=by simp [Zd,Um]
def ZuS {l:List Id} {i:Nat} {x:Id} (h:l[i]? = Xa x):(Zd l)[i]? = Xa (idc x):=by simp [Zd,h]
def WF {γ:Type} {l:List Id} {i:Int} {x:Id} (k:(Int×Int×Int)→Option γ) (a:0≤i) (h:l[i.toNat]? = Xa x):Zn (Zd l) i ZAf k=k (x.c,x.op,x.k):=
 JS (sh:=ZAf) (r:=(x.c,x.op,x.k)) k a (ZuS h) rfl
def Kn (a b c d e f:Int):((P0 .eql a d&&(P0 .eql b e&&(P0 .eql c f&&Xc)))=Xc)↔((⟨a,b,c⟩:Id)=⟨d,e,f⟩):=by
 simp only [CQ,Id.mk.injEq,and_true]
structure Yt where
 id:Id
 q:List Id
 d:Cap
def Vl (n:Yt) (i:Nat):Bool:=match n.q[i]? with | none=>Xc | some x=>Kq x&&decide (x≠n.id)&&!(n.q.take i).contains x
def Jw (n:Yt):Bool:=Kq n.id&&J0 n.d&&decide (n.q.length≤8)&&(XK n.q.length).all (Vl n)
def Zxs (a b c:Int):ZsZ a b c=Xa (Kq ⟨a,b,c⟩):=by
 rw [ZqV]
 repeat' split
 all_goals (refine congrArg Xa ?_;rw [Z6];simp only [Kq,CQ] at *; omega)
def ZBg {l:List Id} (n:l.length < 2^63) (a b c:Int):∀ (j i d:Nat),l.length=i+j→j < d→ZfJ d (Zd l) a b c i=Xa ((l.drop i).contains ⟨a,b,c⟩):=by
 intro j
 induction j with
 | zero =>
  intro i d h g;obtain ⟨f,rfl⟩:∃ f,d=f+1:=⟨d-1,by omega⟩;rw [ZbN,P3 (by simp only [CQ,Ja];omega),U2 (by omega)];rfl
 | succ j ih =>
  intro i d h g;obtain ⟨f,rfl⟩:∃ f,d=f+1:=⟨d-1,by omega⟩;have k:i < l.length:=by omega
  have e:l[(i:Int).toNat]? = Xa l[i]:=by simp
  have m:P1 .add .i64 i 1=((i+1:Nat):Int):=by rw [JP (by omega) (by omega)];omega
  rw [ZbN,P4 (by simp only [CQ,Ja];omega),WF _ (by omega) e,m,Tj k,List.contains_cons];by_cases he:l[i]=(⟨a,b,c⟩:Id)
  ·rw [P4 (by rw [Kn];exact he)];simp [he]
  ·rw [P3 (by rw [Kn];exact he),ih (i+1) f (by omega) (by omega)];have:((⟨a,b,c⟩:Id) == l[i])=Xb:=by simp;exact fun h=>he h.symm
   rw [this,Bool.false_or]
def ZtB (l:List Id) (d:l.length < 2^63) (a b c:Int):ZpF (Zd l) a b c=Xa (l.contains ⟨a,b,c⟩):=by
 have:=ZBg d a b c l.length 0 ZG (by omega) (VN (by omega));rw [ZlE];exact this
def ZaM (n:Yt) (i:Nat):Bool:=match n.q[i]? with | none=>Xc | some x=>Kq x&&!(n.q.take i).contains x
def Zkd (n:Yt):Jw n=(Kq n.id&&J0 n.d&&decide (n.q.length≤8)&&(!n.q.contains n.id&&(XK n.q.length).all (ZaM n))):=by
 unfold Jw;congr 1;rw [Z6];simp only [Xk,XE,Uf,XJ,← XT,US];constructor
 ·intro h;refine ⟨fun b=>?_,fun i a=>?_⟩
  ·obtain ⟨i,a⟩:=X6.1 b;have:=h i (List.getElem?_eq_some_iff.1 a).1;unfold Vl at this;rw [a] at this;simp at this
  ·have:=h i a;unfold Vl at this;unfold ZaM;rw [Xm a] at this ⊢;simp only [Xk] at this ⊢;exact ⟨this.1.1,this.2⟩
 ·intro ⟨c,d⟩ i a;have:=d i a;unfold ZaM at this;unfold Vl;rw [Xm a] at this ⊢;simp only [Xk,P5] at this ⊢;exact ⟨⟨this.1,fun e=>c (e ▸ XC a)⟩,this.2⟩
def ZA7 (n:Yt) (l:n.q.length < 2^63):∀ (j i a:Nat),n.q.length=i+j→j < a→
  Zii a n.id.c n.id.op n.id.k (Zd n.q) n.d.g n.d.t n.d.h n.d.j n.d.i n.d.f n.d.m i=Xa ((U3 i j).all (ZaM n)):=by
 intro j
 induction j with
 | zero =>
  intro i a h d;obtain ⟨f,rfl⟩:∃ f,a=f+1:=⟨a-1,by omega⟩;rw [Zgs,P3 (by simp only [CQ,Ja];omega)];rfl
 | succ j ih =>
  intro i a h d;obtain ⟨f,rfl⟩:∃ f,a=f+1:=⟨a-1,by omega⟩;have e:i < n.q.length:=by omega
  have b:n.q[(i:Int).toNat]? = Xa n.q[i]:=by simp
  have g:P1 .add .i64 i 1=((i+1:Nat):Int):=by rw [JP (by omega) (by omega)];omega
  have k:ZaM n i=(Kq n.q[i]&&!(n.q.take i).contains n.q[i]):=by
   unfold ZaM;rw [Xm e]
  have c:(n.q.take i).length < 2^63:=by rw [Xu];omega
  rw [Zgs,P4 (by simp only [CQ,Ja];omega),WF _ (by omega) b,g,List.range'_succ,UV,k];simp only [Zxs,Xj]
  cases h1:Kq n.q[i] with
  | false => simp
  | true =>
   rw [P3 (by simp),Zu (by omega),Zu (by rw [Ja];omega),WF _ (by omega) b,Ua,ZjA,ZtB _ c,Xj]
   cases h3:(n.q.take i).contains n.q[i] with
   | true => simp
   | false =>
    rw [P3 (by simp)];have:=ih (i+1) f (by omega) (by omega);rw [this];simp
def ZzZ (n:Yt) (a:n.q.length < 2^63):ZwH n.id.c n.id.op n.id.k (Zd n.q) n.d.g n.d.t n.d.h n.d.j n.d.i n.d.f n.d.m=Xa (Jw n):=by
 rw [ZqF,Zkd];simp only [Zxs,ZvR,Xj,Ja,ZtB _ a]
 cases h1:Kq n.id with
 | false => simp [show (⟨n.id.c, n.id.op, n.id.k⟩ : Id) = n.id from rfl, h1]
 | true =>
  cases h2:J0 n.d with
  | false => simp [show (⟨n.id.c, n.id.op, n.id.k⟩ : Id) = n.id from rfl, h1, show (⟨n.d.g, n.d.t, n.d.h, n.d.j, n.d.i, n.d.f, n.d.m⟩ : Cap) = n.d from rfl, h2]
  | true =>
   rw [P3 (by simp),P3 (by simp)];by_cases h3:n.q.length≤8
   ·rw [P3 (by simp only [CQ];omega)]
    cases h4:n.q.contains n.id with
    | true => simp
    | false =>
     rw [P3 (by simp)];have:=ZA7 n a n.q.length 0 ZG (by omega) (VN (by omega));have e:(U3 0 n.q.length)=XK n.q.length:=(List.range_eq_range' ..).symm;rw [e] at this;refine this.trans ?_;simp [h3]
   ·rw [P4 (by simp only [CQ];omega)];simp [h3]
def Zam {n:Nat} (h:n < 2^63):n+1 < ZG:=by
 have:(2:Nat)^64≤ZG:=by decide
 omega
def ZaG {i n:Nat} (h:i < n) (a:n < 2^63):P1 .add .i64 (i:Int) 1=((i+1:Nat):Int):=by
 rw [JP (by omega) (by omega)];omega
def Za0 {i n:Nat} (h:i < n):(P0 .lss (i:Int) (n:Int))=Xc:=by
 simp only [CQ];omega
def ZaQ {i n:Nat} (h:n≤i):¬ (P0 .lss (i:Int) (n:Int))=Xc:=by
 simp only [CQ];omega
def Zfa {γ:Type} {F:Nat→Int→Option γ} {n:Nat} {fin bad:Option γ} (p:Nat→Bool) (g:n < 2^63) (i0:Nat) (l:i0≤1)
  (c:∀ k i:Nat,i0≤i→i < n→F (k+1) (i:Int)=if p i=Xc then F k ((i+1:Nat):Int) else bad)
  (b:∀ k i:Nat,n≤i→F (k+1) (i:Int)=fin):F ZG (i0:Int)=if (U3 i0 (n-i0)).all p=Xc then fin else bad:=by
 have d:∀ (j i a:Nat),i0≤i→n≤i+j→j < a→F a (i:Int)=if (U3 i (n-i)).all p=Xc then fin else bad:=by
  intro j
  induction j with
  | zero =>
   intro i a e h m;obtain ⟨f,rfl⟩:∃ f,a=f+1:=⟨a-1,by omega⟩;rw [b f i (by omega),show n-i=0 by omega];rfl
  | succ j ih =>
   intro i a e h m;obtain ⟨f,rfl⟩:∃ f,a=f+1:=⟨a-1,by omega⟩;by_cases hi:i < n
   ·rw [c f i e hi,show n-i=(n-(i+1))+1 by omega,List.range'_succ,UV]
    cases hp:p i with
    | true => rw [P4 rfl, ih (i + 1) f (by omega) (by omega) (by omega), Tx]
    | false => rw [P3 TI, Bool.false_and, P3 TI]
   ·rw [b f i (by omega),show n-i=0 by omega];rfl
 exact d n i0 ZG (Xt _) (by omega) (by have:=Zam g;omega)
def atB {a:Type} (q:a→Bool) (l:List a) (i:Nat):Bool:=match l[i]? with | some x=>q x | none=>Xc
def ZfH {a:Type} (q:a→Bool) {l:List a} {i:Nat} (h:i < l.length):atB q l i=q l[i]:=by
 unfold atB;rw [Xm h]
def Zlz {c:Type} (q:c→Bool) (l:List c):(U3 0 l.length).all (atB q l)=l.all q:=by
 rw [Z6,XE,XE];constructor
 ·intro h x d;obtain ⟨i,b,rfl⟩:=UU d;have:=h i (by simp [List.mem_range',b])
  rwa [ZfH q b] at this
 ·intro h i b;have a:i < l.length:=by simpa [List.mem_range'] using b
  rw [ZfH q a];exact h _ (XC a)
structure Call where
 g:Int
 r:Int
 p:Int
 c:Int
 v:Int
 o:Int
 h:Int
 f:Int
 l:Int
 n:Int
 u:Int
 w:Int
structure Req where
 id:Id
 a:Call
 s:Int
 i:Int
 e:Yt
structure Vx where
 b:Yt
 op:Int
 lock:Id
structure Zk where
 c:Int
 r:Int
 b:Yt
def Wd (n:Yt):List AV:=[I n.id.c,I n.id.op,I n.id.k,.slice Xb 3 (Zd n.q),I n.d.g,I n.d.t,I n.d.h,I n.d.j,I n.d.i,I n.d.f,B n.d.m]
def Zxp (r:Req):List AV:=[I r.id.c,I r.id.op,I r.id.k,I r.a.g,I r.a.r,I r.a.p,I r.a.c,I r.a.v,I r.a.o,I r.a.h,I r.a.f,I r.a.l,I r.a.n,I r.a.u,I r.a.w,I r.s,I r.i,I r.e.id.c,I r.e.id.op,I r.e.id.k,.slice Xb 3 (Zd r.e.q),I r.e.d.g,I r.e.d.t,I r.e.d.h,I r.e.d.j,I r.e.d.i,I r.e.d.f,B r.e.d.m]
def VG (s:Vx):List AV:=[I s.b.id.c,I s.b.id.op,I s.b.id.k,.slice Xb 3 (Zd s.b.q),I s.b.d.g,I s.b.d.t,I s.b.d.h,I s.b.d.j,I s.b.d.i,I s.b.d.f,B s.b.d.m,I s.op,I s.lock.c,I s.lock.op,I s.lock.k]
def Zf (e:Zk):List AV:=[I e.c,I e.r,I e.b.id.c,I e.b.id.op,I e.b.id.k,.slice Xb 3 (Zd e.b.q),I e.b.d.g,I e.b.d.t,I e.b.d.h,I e.b.d.j,I e.b.d.i,I e.b.d.f,B e.b.d.m]
abbrev Zb5:List Sh:=[.int .i64,.int .i64,.int .i64,.slice 3,.int .i64,.int .i64,.int .i64,.int .i64,.int .i64,.int .i64,.bool]
abbrev ZrF:List Sh:=[.int .i64,.int .i64,.int .i64,.int .i64,.int .i64,.int .i64,.int .i64,.int .i64,.int .i64,.int .i64,.int .i64,.int .i64,.int .i64,.int .i64,.int .i64,.int .i64,.int .i64,.int .i64,.int .i64,.int .i64,.slice 3,.int .i64,.int .i64,.int .i64,.int .i64,.int .i64,.int .i64,.bool]
abbrev Zf8:List Sh:=[.int .i64,.int .i64,.int .i64,.slice 3,.int .i64,.int .i64,.int .i64,.int .i64,.int .i64,.int .i64,.bool,.int .i64,.int .i64,.int .i64,.int .i64]
abbrev ZhC:List Sh:=[.int .i64,.int .i64,.int .i64,.int .i64,.int .i64,.slice 3,.int .i64,.int .i64,.int .i64,.int .i64,.int .i64,.int .i64,.bool]
def ZfF (n:Yt):ShsT Zb5:=(n.id.c,n.id.op,n.id.k,Zd n.q,n.d.g,n.d.t,n.d.h,n.d.j,n.d.i,n.d.f,n.d.m)
def ZAd (r:Req):ShsT ZrF:=(r.id.c,r.id.op,r.id.k,r.a.g,r.a.r,r.a.p,r.a.c,r.a.v,r.a.o,r.a.h,r.a.f,r.a.l,r.a.n,r.a.u,r.a.w,r.s,r.i,r.e.id.c,r.e.id.op,r.e.id.k,Zd r.e.q,r.e.d.g,r.e.d.t,r.e.d.h,r.e.d.j,r.e.d.i,r.e.d.f,r.e.d.m)
def Zu9 (s:Vx):ShsT Zf8:=(s.b.id.c,s.b.id.op,s.b.id.k,Zd s.b.q,s.b.d.g,s.b.d.t,s.b.d.h,s.b.d.j,s.b.d.i,s.b.d.f,s.b.d.m,s.op,s.lock.c,s.lock.op,s.lock.k)
def Yk (e:Zk):ShsT ZhC:=(e.c,e.r,e.b.id.c,e.b.id.op,e.b.id.k,Zd e.b.q,e.b.d.g,e.b.d.t,e.b.d.h,e.b.d.j,e.b.d.i,e.b.d.f,e.b.d.m)
def YD {a γ:Type} {f:a→List AV} {sh:List Sh} {v:a→ShsT sh} (b:∀ x,Zh6 sh (f x)=Xa (v x)) {l:List a} {i:Nat} (h:i < l.length) (k:ShsT sh→Option γ):Zn (l.map f) (i:Int) sh k=k (v l[i]):=by
 refine JS k (by omega) (cs:=f l[i]) ?_ (b _);rw [Ua,Xp,Xm h];rfl
def V5 {γ:Type} {l:List Yt} {i:Nat} (h:i < l.length) (k:ShsT Zb5→Option γ):Zn (l.map Wd) (i:Int) Zb5 k=k (ZfF l[i]):=YD (fun _=>rfl) h k
def ZkX {γ:Type} {l:List Req} {i:Nat} (h:i < l.length) (k:ShsT ZrF→Option γ):Zn (l.map Zxp) (i:Int) ZrF k=k (ZAd l[i]):=YD (fun _=>rfl) h k
def ZdL {γ:Type} {l:List Vx} {i:Nat} (h:i < l.length) (k:ShsT Zf8→Option γ):Zn (l.map VG) (i:Int) Zf8 k=k (Zu9 l[i]):=YD (fun _=>rfl) h k
def Zz {γ:Type} {l:List Zk} {i:Nat} (h:i < l.length) (k:ShsT ZhC→Option γ):Zn (l.map Zf) (i:Int) ZhC k=k (Yk l[i]):=YD (fun _=>rfl) h k
def ZiL {γ:Type} {l:List Id} {i:Nat} (h:i < l.length) (k:(Int×Int×Int)→Option γ):Zn (Zd l) (i:Int) [.int .i64,.int .i64,.int .i64] k=k (l[i].c,l[i].op,l[i].k):=YD (f:=idc) (sh:=[.int .i64,.int .i64,.int .i64]) (v:=fun x=>(x.c,x.op,x.k)) (fun _=>rfl) h k
def JI {γ:Type} {l:List Int} {i:Nat} (h:i < l.length) (k:Int→Option γ):Zn (Ze l) (i:Int) [.int .i64] k=k l[i]:=YD (f:=Zhl) (sh:=[.int .i64]) (v:=fun x=>x) (fun _=>rfl) h k
def VH:Yt:=⟨⟨0,0,0⟩,[],⟨0,0,0,0,0,0,Xb⟩⟩
def zid:Id:=⟨0,0,0⟩
def ZrK (a b c:Int):((P0 .eql a 0&&(P0 .eql b 0&&(P0 .eql c 0&&Xc)))=Xc)↔((⟨a,b,c⟩:Id)=zid):=Kn a b c 0 0 0
def ZwN (a b:Id):Bool:=Zte a.c a.op a.k b.c b.op b.k
def ZAs (a b c d e f:Int):ZxP a b c d e f=Xa (Zte a b c d e f):=by
 rw [ZsN]
 repeat' split
 all_goals (refine congrArg Xa ?_;rw [Z6];simp only [Zte,CQ] at *; omega)
def lte:Zk→Zk→Bool:=fun a b=>ZwN a.b.id b.b.id
def ZCj {n:Nat} (h:n≤maxLen):n < 2^63:=by
 have:maxLen+1=2^63:=by decide
 omega
def Zsw {n:Type} {F:Nat→LL→Int→Option LL} (l:List n) (f:n→LL) (o:l.length < 2^63)
  (c:∀ (k i:Nat) (g:i < l.length),F (k+1) ((l.take i).flatMap f) (i:Int)=F k ((l.take i).flatMap f++f l[i]) ((i+1:Nat):Int))
  (b:∀ (k:Nat) (d:LL) (i:Nat),l.length≤i→F (k+1) d (i:Int)=Xa d):F ZG [] 0=Xa (l.flatMap f):=by
 have m:∀ (j i a:Nat),l.length≤i+j→j < a→F a ((l.take i).flatMap f) (i:Int)=Xa (l.flatMap f):=by
  intro j
  induction j with
  | zero =>
   intro i a h p;obtain ⟨q,rfl⟩:∃ q,a=q+1:=⟨a-1,by omega⟩;rw [b q _ i (by omega),Uc (by omega)]
  | succ j ih =>
   intro i a h p;obtain ⟨q,rfl⟩:∃ q,a=q+1:=⟨a-1,by omega⟩;by_cases g:i < l.length
   ·have e:(l.take i).flatMap f++f l[i]=(l.take (i+1)).flatMap f:=by
     rw [U8,Xm g,Option.toList_some,List.flatMap_append,List.flatMap_singleton]
    rw [c q i g,e];exact ih (i+1) q (by omega) (by omega)
   ·rw [b q _ i (by omega),Uc (by omega)]
 exact m l.length 0 ZG (by omega) (by have:=Zam o;omega)
def Zi7 {b:Type} (f:b→List AV) (l:List b):l.flatMap (fun x=>[f x])=l.map f:=by
 induction l with
 | nil => rfl
 | cons a r ih => rw [List.flatMap_cons, ih, List.map_cons]; rfl
def Zj {a b:LL} {k:Nat} (h:a.length+b.length≤4096) (c:k≤10000):ZB a b k:=by
 unfold ZB Jr;have:(a.length+b.length)*(k+1)≤4096*10001:=Nat.mul_le_mul h (by omega);omega
def s62 (l:List Id) (h:l.length≤64):g62 (Zd l)=Xa (Zd l):=by
 rw [Zwn];exact Zu (Zj (by rw [Ja];simp;omega) (by omega)) _
def Zz9 (l:List Id) (h:l.length≤64):ZwW (Zd l)=Xa (Zd l):=by
 rw [ZrA];refine Zsy (fun a=>?_) ?_
 ·rw [P4 rfl,a]
 ·rw [P3 TI];exact Zu (Zj (by rw [Ja];simp;omega) (by omega)) _
def s30 (n:Yt) (h:n.q.length≤64):g30 n.id.c n.id.op n.id.k (Zd n.q) n.d.g n.d.t n.d.h n.d.j n.d.i n.d.f n.d.m=Xa (ZfF n):=by
 rw [Zvt,s62 _ h];rfl
def s58 (n:Yt) (h:n.q.length≤64):g58 n.id.c n.id.op n.id.k (Zd n.q) n.d.g n.d.t n.d.h n.d.j n.d.i n.d.f n.d.m=Xa (ZfF n):=by
 rw [ZuU,Zz9 _ h];rfl
structure ZuL (l:List Vx):Prop where
 len:l.length≤70
 q:∀ s∈l,s.b.q.length≤20
def ZgV {a:Type} (f:a→List AV) (g:a→a) (l:List a) (i o:Nat) (c:List AV) (h:∀ x,l[i]? = Xa x→setCells (f x) o c=f (g x)):Zw (l.map f) i o c=(l.modify i g).map f:=by
 unfold Zw;refine UO fun j=>?_;rw [Te,Xp,Xp,Te]
 cases hj:l[j]? with
 | none => rfl
 | some x =>
  by_cases hij:i=j
  ·subst hij;simp [h x hj]
  ·simp [hij]
def Zne {a:Type} (l:List a) (i:Nat):l.modify i (fun x=>x)=l:=by
 refine UO fun j=>?_;rw [Te]
 cases l[j]? <;> simp
def ZpJ {a:Type} (f:a→List AV) (l:List a) (i o:Nat) (c:List AV) (h:∀ x,l[i]? = Xa x→setCells (f x) o c=f x):Zw (l.map f) i o c=l.map f:=by
 rw [ZgV f (fun x=>x) l i o c h,Zne]
def ZeX (s:Vx):Bool:=if (P0 .neq s.op 0)=Xc then Xc else !((P0 .eql s.lock.c 0)&&((P0 .eql s.lock.op 0)&&((P0 .eql s.lock.k 0)&&Xc)))
def WU {γ:Type} {F:Nat→Int→Option γ} {n:Nat} (b:Nat→γ) (p:Nat→Bool) (f:n < 2^63)
  (c:∀ k i:Nat,i < n→F (k+1) (i:Int)=if p i=Xc then Xa (b i) else F k ((i+1:Nat):Int))
  (d:∀ k:Nat,F (k+1) (n:Int)=Xa (b n)) (m:Nat) (r:m≤n) (g:∀ j,j < m→p j=Xb) (l:m < n→p m=Xc):F ZG 0=Xa (b m):=by
 have e:∀ (j i a:Nat),i+j=m→n-i < a→F a (i:Int)=Xa (b m):=by
  intro j
  induction j with
  | zero =>
   intro i a h o;obtain ⟨q,rfl⟩:∃ q,a=q+1:=⟨a-1,by omega⟩;have:i=m:=by omega
   subst this;by_cases hi:i < n
   ·rw [c q i hi,P4 (l hi)]
   ·have:i=n:=by omega
    subst this;exact d q
  | succ j ih =>
   intro i a h o;obtain ⟨q,rfl⟩:∃ q,a=q+1:=⟨a-1,by omega⟩;rw [c q i (by omega),P3 (by rw [g i (by omega)];exact TI)];exact ih (i+1) q (by omega) (by omega)
 exact e m 0 ZG (by omega) (by have:=Zam f;omega)
def JL {b:Type} (q:b→Bool):List b→Nat
 | [] => 0
 | a :: r => match q a with | true => 0 | false => JL q r + 1
def Y0 {b:Type} (q:b→Bool):∀ (l:List b),JL q l≤l.length
 | [] => Xt _
 | a :: r => by
  unfold JL;have:=Y0 q r;split<;>simp only [XO]<;>omega
def KL {c:Type} (q:c→Bool):∀ (l:List c) (j:Nat) (b:j < l.length),j < JL q l→q l[j]=Xb
 | [], j, b, _ => by simp at b
 | a :: r, j, b, h => by
  unfold JL at h;split at h
  ·omega
  ·rename_i d
   cases j with
   | zero => exact d
   | succ j => exact KL q r j (by simpa using b) (by omega)
def KX {b:Type} (q:b→Bool):∀ (l:List b) (h:JL q l < l.length),q l[JL q l]=Xc
 | [], h => by simp at h
 | a :: r, h => by
  cases ha:q a with
  | true =>
   have e:JL q (a::r)=0:=by unfold JL;rw [ha]
   simp only [e];exact ha
  | false =>
   have e:JL q (a::r)=JL q r+1:=by rw [JL];rw [ha]
   have c:JL q r < r.length:=by rw [e] at h;simpa using h
   have:=KX q r c;simp only [e];exact this
def Zaf (n m:Nat):Int:=if m < n then (m:Int) else -1
def W7 (n m:Nat):P0 .geq (Zaf n m) 0=decide (m < n):=by
 unfold Zaf;rw [Z6];split<;>simp only [CQ]<;>constructor<;>intro<;>first | omega | simp_all
def Kg {n m:Nat} (h:m < n):Zaf n m=(m:Int):=P4 h
def before (r q:Req):Bool:=ZwN r.id q.id
def Y2 (s:Vx):Bool:=decide (s.b.id=zid)
def ZmR (s:Vx):((P0 .eql s.b.id.c 0)&&((P0 .eql s.b.id.op 0)&&((P0 .eql s.b.id.k 0)&&Xc)))=Y2 s:=by
 rw [Z6,ZrK];unfold Y2;rw [P5]
def s6 (x n:Int) (j:1≤n) (k:n < 2^62):g6 x n=Xa (x % n):=by
 have d:(2:Int)^62=4611686018427387904:=by decide
 have e:=Int.emod_nonneg x (show n≠0 by omega);have f:=Int.emod_lt_of_pos x (show 0 < n by omega);have g:P1 .rem .i64 x n=x.tmod n:=rfl;rw [ZxM,P3 (by simp only [CQ];omega),Zu (by omega),g];have:=Int.tmod_eq_emod (a:=x) (b:=n);by_cases hd:0≤x∨n ∣ x
 ·rw [P4 hd] at this;rw [P3 (by simp only [CQ];omega)];congr 1;omega
 ·rw [P3 hd] at this;have c:((n.natAbs:Nat):Int)=n:=by omega
  have i:x % n≠0:=fun h=>hd (.inr (T5 h));rw [P4 (by simp only [CQ];omega),JP (by omega) (by omega)];congr 1;omega
def s99 (a b:Int):g99 a b=Xa (YZ a b):=by
 rw [ZuC];simp only [s26,Xj]
 cases h:JW a b with
 | false => simp [YZ, h]
 | true =>
  obtain ⟨d,e,f,g,i⟩:=W5 h;have c:Xl .u64 b=b:=ZbC (by omega) (by omega);simp only [Ti,XQ,if_false,c];rw [Zu (by omega),ZmF h]
def s54 (a b c d:Int):g54 a b c d=Xa (Zbi a b c d):=by
 rw [Ztx];simp only [s26,s99,Xj]
 repeat' split
 all_goals (refine congrArg Xa ?_;rw [Z6];simp only [Zbi,ZV,ZW,ZS,ZR,ZT,ZP,ZY,ZU,ZQ,ZX,Z0,ZZ,XT,Ub,XJ,Ue,Xk,XX,P5,decide_eq_false_iff_not,XQ,Ug,Xj,Xf,false_iff,true_iff,iff_false,iff_true] at *; grind)
def s61 (a b c d:Int):g61 a b c d=Xa (inB a b c d):=by
 rw [Zwq];simp only [s26,s99,Xj]
 repeat' split
 all_goals (refine congrArg Xa ?_;rw [Z6];simp only [inB,ZV,ZW,ZS,ZR,ZT,ZP,ZY,ZU,ZQ,ZX,Z0,ZZ,XT,Ub,XJ,Ue,Xk,XX,P5,decide_eq_false_iff_not,XQ,Ug,Xj,Xf,false_iff,true_iff,iff_false,iff_true] at *; grind)
def Zxy (k b s r w l:Int) (d:Bool) (m:Int):Zxj k b s r w l d m=Xa (k,b,s,P1 .and .i64 r m,w,l,d):=Zra ..
def l63 {b r w l k s:Int} {d fl:Bool} {lv wd bits c off obj cnt:Int} (x:0≤b) (g:0≤off) (e:0≤c) (y:cnt≤8) (z:b+off+8*c < 2^62):∀ (j i a:Nat),cnt=i+j→j < a→
  Vs a obj bits lv wd off cnt k b s r w l d fl c (JT obj (b+off) c bits r (if fl=Xc then wd else 0) (if fl=Xc then lv else 0) d i) i=Xa (JT obj (b+off) c bits r (if fl=Xc then wd else 0) (if fl=Xc then lv else 0) d cnt.toNat,0):=by
 intro j;have t:(2:Int)^62=4611686018427387904:=by decide
 induction j with
 | zero =>
  intro i a h u;obtain ⟨f,rfl⟩:∃ f,a=f+1:=⟨a-1,by omega⟩;rw [Zjg,P3 (by simp only [ZV,ZW,ZS,ZR,ZT,ZP,ZY,ZU,ZQ,ZX,Z0,ZZ,XT,Ub,XJ,Ue,Xk,XX,P5,decide_eq_false_iff_not,XQ,Ug,Xj,Xf,false_iff,true_iff,iff_false,iff_true];omega)];have:cnt.toNat=i:=by omega
  rw [this]
 | succ j ih =>
  intro i a h u;obtain ⟨f,rfl⟩:∃ f,a=f+1:=⟨a-1,by omega⟩;have v:(i:Int)*c≤8*c:=Tw (by omega) e;have m:0≤(i:Int)*c:=Int.mul_nonneg (by omega) e;have n:P1 .add .i64 b off=b+off:=JP (by omega) (by omega);have o:P1 .mul .i64 i c=i*c:=ZrN (by omega) (by omega);have p:P1 .add .i64 (b+off) (i*c)=b+off+i*c:=JP (by omega) (by omega);have q:P1 .add .i64 i 1=((i+1:Nat):Int):=by rw [JP (by omega) (by omega)];omega
  have:=ih (i+1) f (by omega) (by omega);rw [W1] at this;rw [Zjg,P4 (by simp only [ZV,ZW,ZS,ZR,ZT,ZP,ZY,ZU,ZQ,ZX,Z0,ZZ,XT,Ub,XJ,Ue,Xk,XX,P5,decide_eq_false_iff_not,XQ,Ug,Xj,Xf,false_iff,true_iff,iff_false,iff_true];omega)]
  cases fl
  ·simp only [XQ,if_false] at this ⊢;rw [Zu (ZaI (by rw [VB];simp;omega)),n,o,p,q];exact this
  ·simp only [if_true] at this ⊢;rw [Zu (ZaI (by rw [VB];simp;omega)),n,o,p,q];exact this
set_option maxHeartbeats 4000000 in
def s63 (k b s r w l:Int) (d:Bool) (obj bits a c off cnt:Int):g63 k b s r w l d obj bits a c off cnt =
  Xa (Yl ⟨k,b,s,r,w,l,d⟩ obj bits a c off cnt,JN ⟨k,b,s,r,w,l,d⟩ obj bits a c off cnt):=by
 rw [ZvV];simp only [ZvR,ZAl,ZAe,Xj];by_cases hh:J0 ⟨k,b,s,r,w,l,d⟩=Xc∧k=1∧P1 .and .i64 r 2≠0∧KP obj bits=Xc∧(obj=3→W2 c a=Xc)∧1≤cnt∧cnt≤8∧0≤off
 ·obtain ⟨m,rfl,R,n,S,T,z,A⟩:=hh;obtain ⟨C,D,o,E,j,U,G,H,J,f,p,W,X,Y,Z,q⟩:=ZiC m n T z A;have L:(Zl ((0:Int)≤bits):Option (List (List AV)×Int)→_)=fun x=>x:=ZaT G;have M:(Zl ((2:Int)^bits.toNat≠0):Option (List (List AV)×Int)→_)=fun x=>x:=ZaT U;have t:Xl .u64 bits=bits:=ZbC G (by omega);have u:Xl .u64 s=s:=ZbC H (by simp only at q;omega);have N:(Zl ((0:Int)≤s):Option (List (List AV)×Int)→_)=fun x=>x:=ZaT H;simp only at o j
  have g:∀ fl:Bool,off+cnt*2^bits.toNat≤2^s.toNat→Vs ZG obj bits a c off cnt 1 b s r w l d fl (2^bits.toNat) [] 0=Xa (JT obj (b+off) (2^bits.toNat) bits r (if fl=Xc then c else 0) (if fl=Xc then a else 0) d cnt.toNat,0):=by
   intro fl aa
   have:=l63 (fl:=fl) (k:=1) (s:=s) (r:=r) (w:=w) (l:=l) (d:=d) (lv:=a) (wd:=c) (bits:=bits) (obj:=obj) (cnt:=cnt) J A (Int.le_of_lt p) z (show b+off+8*2^bits.toNat < 2^62 by
    have ab:(2:Int)^62=4611686018427387904:=by decide
    simp only at f;omega) cnt.toNat 0 ZG (by omega) (VN (by omega))
   exact this
  have ac:0≤b:=J;have O:b+2^s.toNat≤1099511627776:=f;have i:off≤2^s.toNat→P1 .sub .i64 (2^s.toNat) off=2^s.toNat-off:=fun h=>Zdl (by omega) (by omega)
  have e:JN ⟨1,b,s,r,w,l,d⟩ obj bits a c off cnt=if d=Xc∧obj≠1∧obj≠2 then 5 else if off % 2^bits.toNat≠0∨2^s.toNat-cnt*2^bits.toNat < off∨(obj=1∧s≤bits) then 6 else 0:=by
   rw [JN,P3 (by simp [m]),P3 R,P3 (by
    rintro (h | ⟨h,Q⟩ | h | h | h)
    ·rw [n] at h;cases h
    ·rw [S h] at Q;cases Q
    ·omega
    ·omega
    ·omega)]
  have v:P0 .neq (1:Int) 1=Xb:=rfl;simp only [t,u,C,D,o,E,L,M,N,m,n,v,Ti,XQ,if_false];clear C D o E j L M N;by_cases e5:d=Xc∧obj≠1∧obj≠2
  ·rw [P4 e5] at e;obtain ⟨hd,e1,e2⟩:=e5
   repeat' (with_reducible refine ZE (fun _=>?_) (fun _=>?_))
   all_goals first
    | exact Za1 (by decide) e
    | (exfalso; simp only [ZV, ZW, ZS, ZR, ZT, ZP, ZY, ZU, ZQ, ZX, Z0, ZZ, XT, Ub, XJ, Ue, Xk, XX, P5, decide_eq_false_iff_not, XQ, Ug, Xj, Xf, false_iff, true_iff, iff_false, iff_true] at *; first | omega | grind)
  ·rw [P3 e5] at e;by_cases e6:off % 2^bits.toNat≠0∨2^s.toNat-cnt*2^bits.toNat < off∨(obj=1∧s≤bits)
   ·rw [P4 e6] at e
    repeat' (with_reducible refine ZE (fun _=>?_) (fun _=>?_))
    all_goals first
     | exact Za1 (by decide) e
     | (exfalso; simp only [ZV, ZW, ZS, ZR, ZT, ZP, ZY, ZU, ZQ, ZX, Z0, ZZ, XT, Ub, XJ, Ue, Xk, XX, P5, decide_eq_false_iff_not, XQ, Ug, Xj, Xf, false_iff, true_iff, iff_false, iff_true] at *; rw [i (by omega)] at *; first | omega | grind)
     | (exfalso; simp only [ZV, ZW, ZS, ZR, ZT, ZP, ZY, ZU, ZQ, ZX, Z0, ZZ, XT, Ub, XJ, Ue, Xk, XX, P5, decide_eq_false_iff_not, XQ, Ug, Xj, Xf, false_iff, true_iff, iff_false, iff_true] at *; first | omega | grind)
   ·rw [P3 e6] at e;have hL:∀ fl,Vs ZG obj bits a c off cnt 1 b s r w l d fl (2^bits.toNat) [] 0=Xa (JT obj (b+off) (2^bits.toNat) bits r (if fl=Xc then c else 0) (if fl=Xc then a else 0) d cnt.toNat,0):=fun fl=>g fl (by omega);have j:=i (by omega);simp only [hL,Yl,e,if_true,j];have y:(P0 .eql obj 3=Xc)=(obj=3):=by simp only [ZV,ZW,ZS,ZR,ZT,ZP,ZY,ZU,ZQ,ZX,Z0,ZZ,XT,Ub,XJ,Ue,Xk,XX,P5,decide_eq_false_iff_not,XQ,Ug,Xj,Xf,false_iff,true_iff,iff_false,iff_true]
    simp only [y]
    repeat' (with_reducible refine ZE (fun _=>?_) (fun _=>?_))
    all_goals first
     | rfl
     | (exfalso; simp only [ZV, ZW, ZS, ZR, ZT, ZP, ZY, ZU, ZQ, ZX, Z0, ZZ, XT, Ub, XJ, Ue, Xk, XX, P5, decide_eq_false_iff_not, XQ, Ug, Xj, Xf, false_iff, true_iff, iff_false, iff_true] at *; first | omega | grind)
 ·repeat' (with_reducible refine ZE (fun _=>?_) (fun _=>?_))
  all_goals first
   | exact Za1 (by decide) (by simp only [ZV, ZW, ZS, ZR, ZT, ZP, ZY, ZU, ZQ, ZX, Z0, ZZ, XT, Ub, XJ, Ue, Xk, XX, P5, decide_eq_false_iff_not, XQ, Ug, Xj, Xf, false_iff, true_iff, iff_false, iff_true] at *; simp only [JN]; grind)
   | (exfalso; simp only [ZV, ZW, ZS, ZR, ZT, ZP, ZY, ZU, ZQ, ZX, Z0, ZZ, XT, Ub, XJ, Ue, Xk, XX, P5, decide_eq_false_iff_not, XQ, Ug, Xj, Xf, false_iff, true_iff, iff_false, iff_true] at *; grind)
def Ret {a:Type} (P:a→Prop) (o:Option a):Prop:=∃ r,o=Xa r∧P r
def Zc {b:Type} {P:b→Prop} {a:b} (h:P a):Ret P (Xa a):=⟨a,rfl,h⟩
def Zh {a b:Type} {P:b→Prop} {Q:a→Prop} {o:Option a} {f:a→Option b} (h:Ret Q o) (k:∀ r,Q r→Ret P (f r)):Ret P (o.bind f):=by
 obtain ⟨r,rfl,c⟩:=h;exact k r c
def Za {d:Type} {P:d→Prop} {c:Prop} {_:Decidable c} {a b:Option d} (e:c→Ret P a) (f:¬ c→Ret P b):Ret P (if c then a else b):=by
 split
 ·exact e ‹_›
 ·exact f ‹_›
def Zg {a:Type} {P:a→Prop} {p:Prop} {_:Decidable p} {x:Option a} (h:p) (k:Ret P x):Ret P (Zl p x):=by
 rw [Zu h];exact k
def Zi {c:Type} {P:c→Prop} {a b:Option c} (h:a=b) (k:Ret P b):Ret P a:=h ▸ k
def Zb {b c:Type} {P:c→Prop} {o:Option b} {a:b} {f:b→Option c} (h:o=Xa a) (k:Ret P (f a)):Ret P (o.bind f):=by
 subst h;exact k
def VU {σ γ:Type} {P:γ→Prop} {F:Nat→σ→Int→Option γ} {n:Nat} (J:Nat→σ→Prop) (g:n < 2^63)
  (b:∀ (k i:Nat) (s:σ),i < n→J i s→(∀ d,J (i+1) d→Ret P (F k d ((i+1:Nat):Int)))→Ret P (F (k+1) s (i:Int)))
  (c:∀ (k:Nat) (s:σ),J n s→Ret P (F (k+1) s (n:Int))) (s:σ) (h:J 0 s):Ret P (F ZG s 0):=by
 have e:∀ (j i a:Nat) (s:σ),i+j=n→j < a→J i s→Ret P (F a s (i:Int)):=by
  intro j
  induction j with
  | zero =>
   intro i a s h l f;obtain ⟨q,rfl⟩:∃ q,a=q+1:=⟨a-1,by omega⟩;have:i=n:=by omega
   subst this;exact c q s f
  | succ j ih =>
   intro i a s h l f;obtain ⟨q,rfl⟩:∃ q,a=q+1:=⟨a-1,by omega⟩;exact b q i s (by omega) f fun d m=>ih (i+1) q d (by omega) (by omega) m
 exact e n 0 ZG s (by omega) (by have:=Zam g;omega) h
def place (x n:Int) (a:1≤n) (b:n < 2^62):Ret (fun r=>0≤r∧r < n) (g6 x n):=⟨_,s6 x n a b,Int.emod_nonneg x (by omega),Int.emod_lt_of_pos x (by omega)⟩
def YP {γ:Type} {P:γ→Prop} {l:List Int} {z:Int} {k:Int→Option γ} (b:0≤z) (h:z.toNat < l.length) (a:Ret P (k l[z.toNat])):Ret P (Zn (Ze l) z [.int .i64] k):=by
 have e:z=((z.toNat:Nat):Int):=by omega
 have:=JI h k;rw [← e] at this;exact Zi this a
def Kh (c:Cap):List AV:=[I c.g,I c.t,I c.h,I c.j,I c.i,I c.f,B c.m]
abbrev Zdu:List Sh:=[.int .i64,.int .i64,.int .i64,.int .i64,.int .i64,.int .i64,.bool]
def Zxk (c:Cap):ShsT Zdu:=(c.g,c.t,c.h,c.j,c.i,c.f,c.m)
def KM {γ:Type} {l:List Cap} {i:Nat} (h:i < l.length) (k:ShsT Zdu→Option γ):Zn (l.map Kh) (i:Int) Zdu k=k (Zxk l[i]):=YD (fun _=>rfl) h k
def atP {a:Type} (q:a→Bool) (p:List a) (i:Nat):Bool:=match p[i]? with | some x=>q x | none=>Xb
def Vk {a:Type} (q:a→Bool) {p:List a} {i:Nat} (h:i < p.length):atP q p i=q p[i]:=by unfold atP;rw [Xm h]
def idE (i:Id) (e:Zk):Bool:=decide (e.b.id=i)
def plE (c s:Int) (e:Zk):Bool:=decide (e.c=c)&&decide (e.r=s)
def Zs8 (l:List Zk) (c:l.length < 2^63) (j:Id):Zvg (l.map Zf) j.c j.op j.k=Xa (Zaf l.length (JL (idE j) l)):=by
 rw [ZqN]
 exact WU (F:=fun k z=>ZdX k (l.map Zf) j.c j.op j.k z) (n:=l.length) (fun m=>Zaf l.length m) (atP (idE j) l) c
  (fun k i a=>by
   show ZdX (k+1) _ _ _ _ _=_;rw [Zgz,Xi,P4 (Za0 a)];refine (Zz a _).trans ?_;simp only [Yk,d2,d4,d8,P2,d6,df,dg,dh,di,dj,dk,dl];rw [ZaG a c,Vk _ a,Kg a,idE];refine ZE (fun b=>?_) fun b=>?_
   ·rw [P4 (by rw [Kn] at b;rw [P5];exact b)]
   ·rw [P3 (by rw [Kn] at b;rw [P5];exact b)])
  (fun k=>by
   show ZdX (k+1) _ _ _ _ _=_
   rw [Zgz,Xi,P3 (ZaQ (Xt _)),Zaf,P3 (UT _)]) (JL (idE j) l) (Y0 _ l) (fun i a=>by
    have d:=Y0 (idE j) l;rw [Vk _ (by omega)];exact KL _ l i (by omega) a) (fun h=>by rw [Vk _ h];exact KX _ l h)
def Zzt (l:List Zk) (e:l.length < 2^63) (c s:Int):Zw3 (l.map Zf) c s=Xa (Zaf l.length (JL (plE c s) l)):=by
 rw [Zst]
 exact WU (F:=fun k z=>Zcf k (l.map Zf) c s z) (n:=l.length) (fun m=>Zaf l.length m) (atP (plE c s) l) e
  (fun k i a=>by
   show Zcf (k+1) _ _ _ _=_;rw [Zg0,Xi,P4 (Za0 a)];refine (Zz a _).trans ?_;simp only [Yk,d2,d4,d8,P2,d6,df,dg,dh,di,dj,dk,dl];rw [ZaG a e,Vk _ a,Kg a,plE];refine ZE (fun b=>?_) fun b=>?_
   ·simp only [CQ] at b;refine (Zz a _).trans ?_;simp only [Yk,d2,d4,d8,P2,d6,df,dg,dh,di,dj,dk,dl];refine ZE (fun d=>?_) fun d=>?_
    ·simp only [CQ] at d;rw [P4 (by simp [b,d])]
    ·simp only [CQ] at d;rw [P3 (by simp [d])]
   ·simp only [CQ] at b;rw [P3 (by simp [b])])
  (fun k=>by
   show Zcf (k+1) _ _ _ _=_
   rw [Zg0,Xi,P3 (ZaQ (Xt _)),Zaf,P3 (UT _)]) (JL (plE c s) l) (Y0 _ l) (fun i a=>by
    have f:=Y0 (plE c s) l;rw [Vk _ (by omega)];exact KL _ l i (by omega) a) (fun h=>by rw [Vk _ h];exact KX _ l h)
structure Kj (l:List Zk):Prop where
 len:l.length≤1000
 q:∀ e∈l,e.b.q.length≤20
def s22 (l:List Zk) (h:Kj l):g22 (l.map Zf)=Xa (l.map Zf):=by
 rw [Zu5];have c:l.length < 2^63:=by have:=h.len;omega
 refine (Zsw (F:=fun k b i=>Zko k (l.map Zf) b i) l (fun r=>[Zf r]) c (fun k i a=>?_) (fun k b i a=>?_)).trans (by rw [Zi7])
 ·show Zko (k+1) _ _ _=_;rw [Zjp,Xi,P4 (Za0 a)];refine (Zz a _).trans ?_;simp only [Yk,d2,d4,d8,P2,d6,df,dg,dh,di,dj,dk,dl];refine (Zz a _).trans ?_;refine (Zz a _).trans ?_;have d:=h.q l[i] (XC a);simp only [Yk,d2,d4,d8,P2,d6,df,dg,dh,di,dj,dk,dl];rw [s30 l[i].b (by omega),Xj];refine (Zu (Zj ?_ (by omega)) _).trans ?_
  ·rw [Zi7];have:=h.len;simp only [Xi,Xu,XD,XO,Ui];omega
  ·rw [ZaG a c];rfl
 ·show Zko (k+1) _ _ _=_;rw [Zjp,Xi,P3 (ZaQ a)]
def Zp9 (l:List Zk) (x:Zk) (r:List Zk):Prop:=∃ i,i≤l.length∧(∀ j (h:j < l.length),j < i→lte x l[j]=Xb)∧(∀ h:i < l.length,lte x l[i]=Xc)∧l.any (idE x.b.id)=Xb∧l.any (plE x.c x.r)=Xb∧r=l.take i++[x]++l.drop i
def ZiP {a:Type} (q:a→Bool) (l:List a) (h:¬ P0 .geq (Zaf l.length (JL q l)) 0=Xc):l.any q=Xb:=by
 rw [W7,P5] at h;rw [UC];intro x b;obtain ⟨i,c,rfl⟩:=UU b;have:=KL q l i c (by omega);simp [this]
def Vd {l m:List Zk} (h:Kj l) (a:∀ e∈m,e∈l) (c:m.length≤l.length):Kj m:=⟨by have:=h.len;omega,fun e b=>h.q e (a e b)⟩
def ZB1 (l:List Zk) (h:Kj l) (x:Zk) (C:x.b.q.length≤20):Ret (fun r=>r=(E0,Xb)∨∃ m,Zp9 l x m∧r=(m.map Zf,Xc)) (Zts (l.map Zf) x.c x.r x.b.id.c x.b.id.op x.b.id.k (Zd x.b.q) x.b.d.g x.b.d.t x.b.d.h x.b.d.j x.b.d.i x.b.d.f x.b.d.m):=by
 have o:l.length < 2^63:=by have:=h.len;omega
 rw [ZmP,Zs8 l o x.b.id,Xj];refine Za (fun _=>Zc (.inl rfl)) fun q=>?_;rw [Zzt l o,Xj];refine Za (fun _=>Zc (.inl rfl)) fun v=>?_;have w:=ZiP _ _ q;have y:=ZiP _ _ v
 have c:∀ (i:Nat),i≤l.length→(∀ j (h:j < l.length),j < i→lte x l[j]=Xb)→(∀ h:i < l.length,lte x l[i]=Xc)→Ret (fun r=>r=(E0,Xb)∨∃ m,Zp9 l x m∧r=(m.map Zf,Xc)) (Zl ((0:Int)≤(i:Int))<|Zl ((i:Int)≤(Xg (l.map Zf):Int))<|
   (g22 (Xy (Xh (i:Int)) (l.map Zf))).bind fun (b:LL)=>(g30 x.b.id.c x.b.id.op x.b.id.k (Zd x.b.q) x.b.d.g x.b.d.t x.b.d.h x.b.d.j x.b.d.i x.b.d.f x.b.d.m).bind fun a=>
   Zl (ZB b (E0++[[I x.c,I x.r,I a.1,I a.2.1,I a.2.2.1,AV.slice Xb 3 a.2.2.2.1,I (d4 a).1,I (d4 a).2.1,I (d6 a).1,I (d6 a).2.1,I (d8 a).1,I (d8 a).2.1,B a.2.2.2.2.2.2.2.2.2.2]]) 120)<|
   Zl ((0:Int)≤(i:Int))<|Zl ((i:Int)≤(Xg (l.map Zf):Int))<|(g22 (Xz (Xh (i:Int)) (l.map Zf))).bind fun (d:LL)=>
   Zl (ZB (b++(E0++[[I x.c,I x.r,I a.1,I a.2.1,I a.2.2.1,AV.slice Xb 3 a.2.2.2.1,I (d4 a).1,I (d4 a).2.1,I (d6 a).1,I (d6 a).2.1,I (d8 a).1,I (d8 a).2.1,B a.2.2.2.2.2.2.2.2.2.2]])) d 120)<|
   Xa (((b++(E0++[[I x.c,I x.r,I a.1,I a.2.1,I a.2.2.1,AV.slice Xb 3 a.2.2.2.1,I (d4 a).1,I (d4 a).2.1,I (d6 a).1,I (d6 a).2.1,I (d8 a).1,I (d8 a).2.1,B a.2.2.2.2.2.2.2.2.2.2]]))++d),Xc)):=by
  intro i f s t;have D:=h.len;refine Zg (by omega) (Zg (by rw [Xi];omega) ?_);rw [Ua,← Um,← Uq,s22 _ (Vd h (fun e u=>XL u) (by simp;omega)),Xj,s30 x.b (by omega),Xj];refine Zg (Zj (by simp;omega) (by omega)) (Zg (by omega) (Zg (by rw [Xi];omega) ?_));rw [s22 _ (Vd h (fun e u=>XR u) (by simp)),Xj];refine Zg (Zj (by simp;omega) (by omega)) (Zc (.inr ⟨_,⟨i,f,s,t,w,y,rfl⟩,?_⟩));simp [Zf,ZfF]
 refine VU (F:=fun k (_:Unit) z=>WT k (l.map Zf) x.c x.r x.b.id.c x.b.id.op x.b.id.k (Zd x.b.q) x.b.d.g x.b.d.t x.b.d.h x.b.d.j x.b.d.i x.b.d.f x.b.d.m z) (n:=l.length) (fun i _=>∀ j (h:j < l.length),j < i→lte x l[j]=Xb) o (fun k i _ f p ih=>?_) (fun k _ p=>?_) () (fun j _ A=>absurd A (UA _))
 ·show Ret _ (WT (k+1) _ _ _ _ _ _ _ _ _ _ _ _ _ _ _);rw [WS,Xi,P4 (Za0 f)];refine Zi (Zz f _) ?_;simp only [Yk,d2,d4,d8,P2,d6,df,dg,dh,di,dj,dk,dl];rw [ZAs,Xj];refine Za (fun g=>?_) fun g=>?_
  ·rw [ZaG f o];refine ih () fun j q v=>?_;by_cases hji:j < i
   ·exact p j q hji
   ·have:j=i:=by omega
    subst this;rw [XJ] at g;exact g
  ·have:=c i (by omega) p fun _=>by rw [XJ,Ub] at g;exact g
   rw [Xi] at this;exact this
 ·show Ret _ (WT (k+1) _ _ _ _ _ _ _ _ _ _ _ _ _ _ _);rw [WS,Xi,P3 (ZaQ (Xt _))];have:=c l.length (Xt _) p fun h=>absurd h (UT _);rw [Xi] at this;exact this
structure Za3 (s:Yt) (i:Id) (c:Cap):Prop where
 e:Jw s=Xc
 id:Kq i=Xc
 d:J0 c=Xc
 ne:i≠s.id
 fresh:s.q.contains i=Xb
 room:s.q.length < 8
def Ji (s:Yt) (i:Id) (c:Cap):Yt:=⟨i,s.q++[s.id],c⟩
def l67 (a:List V→Option Bool) (l:List Zk) (j:l.length < 2^63) (cs:List Cap) (m i:Nat) (e:i < cs.length) (f:Ret (fun _=>True) (a [.l (l.map Zf),.l (cs.map Kh),.i (Zaf l.length m),.i (P1 .add .i64 (i:Int) 1)])) :
  Ret (fun _=>True) (Ww a ZG (l.map Zf) (cs.map Kh) (Zaf l.length m) (i:Int) 0):=by
 refine VU (P:=fun _=>True) (F:=fun c (_:Unit) z=>Ww a c (l.map Zf) (cs.map Kh) (Zaf l.length m) (i:Int) z) (n:=l.length) (fun _ _=>True) j (fun c t _ g _ h=>?_) (fun c _ _=>?_) () trivial
 ·show Ret _ (Ww _ (c+1) _ _ _ _ _);rw [Zff,Xi,P4 (Za0 g)];refine Zi (Zz g _) ?_;simp only [Yk,d2,d4,d8,P2,d6,df,dg,dh,di,dj,dk,dl];have b:Ret (fun _=>True) (Ww a c (l.map Zf) (cs.map Kh) (Zaf l.length m) (i:Int) (P1 .add .i64 (t:Int) 1)):=by rw [ZaG g j];exact h () trivial
  refine Za (fun d=>?_) fun d=>?_
  ·rw [W7,P5] at d;refine Za (fun k=>?_) fun k=>?_
   ·rw [s32,Xj];refine Zi (congrArg (fun z=>Zn (l.map Zf) z _ _) (Kg d)) ?_;refine Zi (Zz d _) ?_;simp only [Yk,d2,d4,d8,P2,d6,df,dg,dh,di,dj,dk,dl];rw [s32,Xj,s61,Xj,Xj];refine Zi (KM e _) ?_;simp only [Zxk];rw [s32,Xj,s54,Xj];exact Za (fun _=>Za (fun _=>Zc trivial) fun _=>b) fun _=>b
   ·rw [s32,Xj];refine Zi (KM e _) ?_;simp only [Zxk];rw [s32,Xj,s54,Xj];exact Za (fun _=>Zc trivial) fun _=>b
  ·rw [s32,Xj];refine Zi (KM e _) ?_;simp only [Zxk];rw [s32,Xj,s54,Xj];exact Za (fun _=>Zc trivial) fun _=>b
 ·show Ret _ (Ww _ (c+1) _ _ _ _ _);rw [Zff,Xi,P3 (ZaQ (Xt _))];exact f
def s67 (l:List Zk) (b:l.length < 2^63) (j:Id) (cs:List Cap) (c:cs.length < 2^63):Ret (fun _=>True) (g67 (l.map Zf) j.c j.op j.k (cs.map Kh)):=by
 rw [Zqx,Zs8 l b j,Xj];generalize hm:JL (idE j) l=m;refine VU (F:=fun k (_:Unit) z=>Zka k (l.map Zf) (cs.map Kh) (Zaf l.length m) z) (n:=cs.length) (fun _ _=>True) c (fun k i _ a _ ih=>?_) (fun k _ _=>?_) () trivial
 ·show Ret _ (Zka (k+1) _ _ _ _);rw [Zez,Xi,P4 (Za0 a)];exact l67 _ l b cs m i a (by rw [ZaG a c];exact ih () trivial)
 ·show Ret _ (Zka (k+1) _ _ _ _);rw [Zez,Xi,P3 (ZaQ (Xt _))];exact Zc trivial
structure EOk (e:Zk):Prop where
 c0:0≤e.c
 c1:e.c < 4
 s0:0≤e.r
 s1:e.r < 16
 ic:e.b.id.c=e.c
 o1:1≤e.b.id.op
 o2:e.b.id.op≤40
 p0:0≤e.b.id.k
 p1:e.b.id.k < 3
 ok:Jw e.b=Xc
structure FOk (l:List Zk) (n:Nat):Prop where
 len:l.length≤n
 all:∀ e∈l,EOk e
 asc:l.Pairwise fun a b=>lte a b=Xc
def Z4 {n:Yt} (h:Jw n=Xc):Kq n.id=Xc∧J0 n.d=Xc∧n.q.length≤8∧(XK n.q.length).all (Vl n)=Xc:=by
 simp only [Jw,Xk,P5] at h;exact ⟨h.1.1.1,h.1.1.2,h.1.2,h.2⟩
def FOk.few {l:List Zk} {n:Nat} (h:FOk l n) (b:n≤100):Kj l:=⟨by have:=h.len;omega,fun e a=>by have:=(Z4 (h.all e a).ok).2.2.1;omega⟩
def ZcB {a b:Zk} : lte a b=Xc↔(a.b.id.c < b.b.id.c∨(a.b.id.c=b.b.id.c∧(a.b.id.op < b.b.id.op∨(a.b.id.op=b.b.id.op∧a.b.id.k < b.b.id.k)))):=by simp [lte,ZwN,Zte]
def ZmA {a b c:Zk} (d:lte a b=Xc) (e:lte b c=Xc):lte a c=Xc:=by
 rw [ZcB] at *; omega
def ZlF {a b:Zk} (h:lte a b=Xb) (c:a.b.id≠b.b.id):lte b a=Xc:=by
 rw [← XT,ZcB] at h;rw [ZcB];have:¬ (a.b.id.c=b.b.id.c∧a.b.id.op=b.b.id.op∧a.b.id.k=b.b.id.k):=fun ⟨d,e,f⟩=>c (by cases g:a.b.id;cases hb:b.b.id;simp_all);omega
def Zn4 {l m:List Zk} {x:Zk} (h:l.Pairwise fun a b=>lte a b=Xc) (c:Zp9 l x m):m.Pairwise fun a b=>lte a b=Xc:=by
 obtain ⟨i,t,g,n,e,_,rfl⟩:=c
 have o:∀ j (d:j < l.length),i≤j→lte x l[j]=Xc:=by
  intro j d q;have p:lte x (l[i]'(by omega))=Xc:=n (by omega);by_cases hji:j=i
  ·subst hji;exact p
  ·exact ZmA p (UB.1 h i j (by omega) d (by omega))
 rw [T1,T1];refine ⟨⟨h.take,Ty ..,fun a c b f=>?_⟩,h.drop,fun a c b f=>?_⟩
 ·rw [XF] at f;subst f;obtain ⟨j,d,rfl⟩:=UU c;rw [Xu] at d;rw [Tk];refine ZlF (g j (by omega) (by omega)) fun r=>?_;rw [UC] at e;have:=e _ (XC (show j < l.length by omega));rw [idE,P5] at this;exact this r.symm
 ·obtain ⟨k,s,rfl⟩:=UU f;rw [XV] at s;rw [TN];rw [Xq,XF] at c;rcases c with c | rfl
  ·obtain ⟨j,d,rfl⟩:=UU c;rw [Xu] at d;rw [Tk];exact UB.1 h j (i+k) (by omega) (by omega) (by omega)
  ·exact o (i+k) (by omega) (by omega)
def ZsC (i:Id) (c:Cap) (a:Kq i=Xc) (b:J0 c=Xc):Jw ⟨i,[],c⟩=Xc:=by simp [Jw,a,b]
def Zpw {s:Yt} {i:Id} {c:Cap} (h:Za3 s i c):Jw (Ji s i c)=Xc:=by
 obtain ⟨k,n,o,a⟩:=Z4 h.e;have p:=h.room;simp only [Jw,Ji,Xk,P5,h.id,h.d,true_and,XD,XO,Ui];refine ⟨by omega,?_⟩;rw [XE] at a ⊢;intro j l;rw [Uf] at l;by_cases hjl:j < s.q.length
 ·have:=a j (Uf.2 hjl);simp only [Vl,Xm hjl] at this;simp only [Vl,List.getElem?_append_left hjl,Xm hjl,List.take_append_of_le_length (XU hjl)];simp only [Xk,P5] at this ⊢;refine ⟨⟨this.1.1,fun b=>?_⟩,this.2⟩;have f:=h.fresh;rw [← b] at f;simp at f
 ·have d:j=s.q.length:=by omega
  subst d;simp only [Vl,List.getElem?_append_right (Xt _),Nat.sub_self,List.getElem?_cons_zero,List.take_left];simp only [Xk,P5];refine ⟨⟨k,fun b=>h.ne b.symm⟩,?_⟩;rw [XJ,← XT,US];intro m;obtain ⟨t,g,e⟩:=UU m;have:=a t (Uf.2 g);simp only [Vl,Xm g,e] at this;simp at this
def JH (l:List Int):(Ze l).length=l.length:=by simp [Ze]
def Ko (k s d c:Int):List Int:=if k=1 then [d] else if k=2 then s::(XK c.toNat).map (fun i:Nat=>P1 .add .i64 d (i:Int)) else if k=3 then [s,d] else [s]
def ZbB (k s d c:Int):List Int:=Lib.compact ((Ko k s d c).mergeSort fun x y=>decide (x≤y))
def Zwi (zs:List Int):(Lib.compact zs).length≤zs.length:=by
 unfold Lib.compact Lib.compactUpTo;rw [Xi];exact XN (U9 _ _) (by simp)
def s64 (l:List Int) (c:l.length < 2^63) (a:Int):g64 (Ze l) a=Xa (l.any (fun x=>decide (a=x))):=by
 rw [Zvz]
 have:=Zfa (F:=fun k i=>ZhJ k (Ze l) a i) (n:=l.length) (fin:=Xa Xb) (bad:=Xa Xc) (atB (fun x=>!decide (a=x)) l) c 0 (by omega)
  (fun k i _ b=>by
   show ZhJ (k+1) (Ze l) _ _=_;rw [Zix,JH,P4 (Za0 b)];refine (JI b _).trans ?_;rw [ZaG b c,ZfH _ b];generalize ZhJ k (Ze l) a ((i+1:Nat):Int)=X;generalize l[i]=t;by_cases h:a=t
   ·rw [P4 (by simp only [CQ];exact h.symm),P3 (by simp [h])]
   ·rw [P3 (by simp only [CQ];exact fun d=>h d.symm),P4 (by simp [h])])
  (fun k i b=>by show ZhJ (k+1) (Ze l) _ _=_;rw [Zix,JH,P3 (ZaQ b)])
 rw [Nat.sub_zero,Zlz] at this;refine Eq.trans this ?_;rw [T6]
 cases l.all (fun x=>!decide (a=x))<;>rfl
def Zwl:Call:=⟨0,0,0,0,0,0,0,0,0,0,0,0⟩
def Zfi:Req:=⟨zid,Zwl,0,0,VH⟩
def Zo {σ γ:Type} {P:γ→Prop} {F:Nat→σ→Int→Option γ} (n:Nat) (J:Nat→σ→Prop) (d:n < 1000)
  (a:∀ (k i:Nat) (s:σ),i≤n→J i s→(i < n→∀ c,J (i+1) c→Ret P (F k c ((i+1:Nat):Int)))→Ret P (F (k+1) s (i:Int))) (s:σ) (h:J 0 s):Ret P (F ZG s 0):=by
 refine VU (F:=F) (n:=n) J (by omega) (fun k i s e b ih=>a k i s (by omega) b fun _=>ih) (fun k s b=>a k n s (Xt _) b fun h=>absurd h (UT _)) s h
def Jd {i n:Nat} (h:i≤n) (a:n < 1000):P1 .add .i64 (i:Int) 1=((i+1:Nat):Int):=by
 rw [JP (by omega) (by omega)];omega
def l86 {l m:List Id} (n:l.length < 2^63) (o:l.length=m.length):∀ (j i a:Nat),l.length=i+j→j < a→Zos a (Zd l) (Zd m) i=Xa (decide (l.drop i=m.drop i)):=by
 intro j
 induction j with
 | zero =>
  intro i a h e;obtain ⟨f,rfl⟩:∃ f,a=f+1:=⟨a-1,by omega⟩;rw [Zik,P3 (by simp only [CQ,Ja];omega),U2 (by omega),U2 (by omega)];rfl
 | succ j ih =>
  intro i a h e;obtain ⟨f,rfl⟩:∃ f,a=f+1:=⟨a-1,by omega⟩;have g:i < l.length:=by omega
  have c:i < m.length:=by omega
  have d:l[(i:Int).toNat]? = Xa l[i]:=by simp
  have b:m[(i:Int).toNat]? = Xa m[i]:=by simp
  have k:P1 .add .i64 i 1=((i+1:Nat):Int):=by rw [JP (by omega) (by omega)];omega
  rw [Zik,P4 (by simp only [CQ,Ja];omega),WF _ (by omega) d,WF _ (by omega) b,k,Tj g,Tj c];by_cases he:l[i]=m[i]
  ·rw [P3 (by rw [XJ,← XT,Kn];exact fun h=>h he),ih (i+1) f (by omega) (by omega)];simp only [he,List.cons.injEq,true_and]
  ·rw [P4 (by rw [XJ,← XT,Kn];exact he)];simp only [List.cons.injEq,he,false_and,decide_false]
def s86 (l m:List Id) (a:l.length < 2^63) (c:m.length < 2^63):g86 (Zd l) (Zd m)=Xa (decide (l=m)):=by
 rw [ZvQ,Ja,Ja];by_cases h:l.length=m.length
 ·rw [P3 (by simp only [CQ];omega)];have:=l86 a h l.length 0 ZG (by omega) (VN (by omega));rw [U6,U6] at this;exact this
 ·rw [P4 (by simp only [CQ];omega)];have:¬ l=m:=fun b=>h (by rw [b]);simp [this]
def s44 (a b c:Int) (l:List Id) (e:l.length < 2^63) (k f s r w lv:Int) (d:Bool):g44 a b c (Zd l) k f s r w lv d a b c (Zd l) k f s r w lv d=Xa Xc:=by
 rw [Zva,s86 l l e e,P4 (by simp [P0]),P4 (by simp [P0]),Xj];simp
def s25 (s:Vx):g25 s.b.id.c s.b.id.op s.b.id.k (Zd s.b.q) s.b.d.g s.b.d.t s.b.d.h s.b.d.j s.b.d.i s.b.d.f s.b.d.m s.op s.lock.c s.lock.op s.lock.k=Xa (ZeX s):=by
 rw [Zt7,ZeX];split<;>rfl
def s29 (s:Vx):g29 s.b.id.c s.b.id.op s.b.id.k (Zd s.b.q) s.b.d.g s.b.d.t s.b.d.h s.b.d.j s.b.d.i s.b.d.f s.b.d.m s.op s.lock.c s.lock.op s.lock.k=Xa (Y2 s):=by rw [ZuJ,ZmR]
structure Reg where
 t:Int
 h:Int
 dev:Bool
def JQ (r:Reg):List AV:=[I r.t,I r.h,B r.dev]
def Kl {γ:Type} {l:List Reg} {i:Nat} (h:i < l.length) (k:(Int×Int×Bool)→Option γ):Zn (l.map JQ) (i:Int) [.int .i64,.int .i64,.bool] k=k (l[i].t,l[i].h,l[i].dev):=
 YD (f:=JQ) (sh:=[.int .i64,.int .i64,.bool]) (v:=fun r=>(r.t,r.h,r.dev)) (fun _=>rfl) h k
def Zz6 (a b:Int):Ztb a b=Xa (YZ a b):=by
 rw [ZrI];simp only [Zww,Xj]
 cases h:JW a b with
 | false => simp [YZ, h]
 | true =>
  obtain ⟨c,d,e,f,g⟩:=W5 h;simp only [Ti,XQ,if_false];rw [Zu (by omega),ZmF h]
def ZAb (a b c d:Int):Zw4 a b c d=Xa (inB a b c d):=by
 rw [ZrR];simp only [Zww,Zz6,Xj]
 repeat' split
 all_goals (refine congrArg Xa ?_;rw [Z6];simp only [inB,CQ] at *; grind)
def ZjO (b n:Int) (r:Reg):Bool:=inB r.t r.h b n
def JY (a:List Reg) (b n:Int):Int:=Zaf a.length (JL (ZjO b n) a)
def s53 (a b:Int) (d:Bool):g53 a b d=Xa (a,b):=Zuc ..
def s27 (a:List Reg) (d:a.length < 2^63) (b n:Int):g27 (a.map JQ) b n=Xa (JY a b n):=by
 rw [ZtC]
 exact WU (F:=fun k z=>Zkt k (a.map JQ) b n z) (n:=a.length) (fun m=>Zaf a.length m) (atP (ZjO b n) a) d
  (fun k i c=>by
   show Zkt (k+1) _ _ _ _=_;rw [ZiY,Xi,P4 (Za0 c)];refine (Kl c _).trans ?_;rw [s53,Xj,s61,Xj,ZaG c d,Vk _ c,Kg c];rfl)
  (fun k=>by show Zkt (k+1) _ _ _ _=_;rw [ZiY,Xi,P3 (ZaQ (Xt _)),Zaf,P3 (UT _)])
  (JL (ZjO b n) a) (Y0 _ _) (fun j e=>by have:=Y0 (ZjO b n) a;rw [Vk _ (by omega)];exact KL _ _ j (by omega) e) (fun h=>by rw [Vk _ h];exact KX _ _ h)
def ZnV (l:List Vx) (d c:Int):List Vx:=(l.drop d.toNat).take c.toNat
def Zgj (l:List Vx) (d c:Int):Bool:=(ZnV l d c).any fun s=>!Y2 s
def s28 (l:List Vx) (o:l.length < 2^62) (d c:Int) (p:0≤d) (q:0≤c) (h:d+c≤l.length):g28 (l.map VG) d c=Xa (Zgj l d c):=by
 obtain ⟨m,rfl⟩:∃ m:Nat,c=(m:Int):=⟨c.toNat,by omega⟩;have a:(ZnV l d m).length=m:=by unfold ZnV;rw [Xu,XV];omega
 rw [Zt1]
 have:=Zfa (F:=fun k i=>Zkv k (l.map VG) d (m:Int) i) (n:=m) (fin:=Xa Xb) (bad:=Xa Xc) (atB Y2 (ZnV l d (m:Int))) (by omega) 0 (by omega)
  (fun k i _ b=>by
   show Zkv (k+1) (l.map VG) d (m:Int) _=_;have e:P1 .add .i64 d (i:Int)=((d.toNat+i:Nat):Int):=by rw [JP (by omega) (by omega)];omega
   have f:d.toNat+i < l.length:=by omega
   rw [ZiH,P4 (Za0 b),e];refine (ZdL f _).trans ?_;refine (congrArg (fun x=>UK x _) (s29 l[d.toNat+i])).trans ?_;have j:(ZnV l d (m:Int))[i]'(by omega)=l[d.toNat+i]:=by unfold ZnV;simp
   rw [Xj,ZaG b (by omega),ZfH _ (by omega),j]
   cases Y2 l[d.toNat+i]<;>rfl)
  (fun k i b=>by show Zkv (k+1) (l.map VG) d (m:Int) _=_;rw [ZiH,P3 (ZaQ b)])
 have g:=Zlz Y2 (ZnV l d (m:Int));rw [a] at g;rw [Nat.sub_zero,g] at this;refine Eq.trans this ?_;unfold Zgj;rw [T6];simp only [Bool.not_not]
 cases (ZnV l d (m:Int)).all Y2<;>rfl
def wfB (core n:Int) (c:Call):Bool:=decide (
 (c.g=1∧(0≤c.p∧c.p < n)∧6≤c.h∧c.h≤40)∨
 (c.g=2∧(0≤c.r∧c.r < n)∧(1≤c.n∧c.n≤8)∧0≤c.p∧c.p≤n-c.n)∨
 (c.g=3∧(0≤c.r∧c.r < n)∧(0≤c.p∧c.p < n)∧0≤c.v∧c.v≤7)∨
 (c.g=4∧(0≤c.r∧c.r < n)∧(0≤c.p∧c.p < n)∧(0≤c.v∧c.v≤7)∧(0≤c.c∧c.c < 32)∧c.c≠core)∨
 ((c.g=5∨c.g=6)∧0≤c.r∧c.r < n))
def Zrh (n q:Int) (a:0≤n) (b:n < 2^62):∃ t,P1 .sub .i64 n q=t∧(1≤q→q≤8→t=n-q):=⟨_,rfl,fun c d=>Zdl (by omega) (by omega)⟩
set_option maxHeartbeats 4000000 in
def s23 (core n:Int) (c:Call) (a:0≤n) (b:n < 2^62) (d:1≤c.g) (e:c.g≤6):g23 core n c.g c.r c.p c.c c.v c.o c.h c.f c.l c.n c.u c.w=Xa (!wfB core n c):=by
 obtain ⟨t,f,g⟩:=Zrh n c.n a b;rw [ZuA];simp only [f]
 repeat' (with_reducible refine ZE (fun _=>?_) (fun _=>?_))
 all_goals (refine congrArg Xa ?_;rw [Z6];simp only [wfB,CQ] at *; omega)
def ZqH {core n:Int} {c:Call} (h:wfB core n c=Xc):1≤c.g∧c.g≤6:=by
 have:=of_decide_eq_true h;omega
def isO (n:Int):Option Int→Bool
 | some x => decide (x = n)
 | none => Xb
def ZpS (l:List Int) (n:Int):List Int:=
 if isO n l[JL (fun x=>!decide (x < n)) l]? = Xc then l else l.take (JL (fun x=>!decide (x < n)) l)++[n]++l.drop (JL (fun x=>!decide (x < n)) l)
def s60 (l:List Int) (c:l.length≤1000) (n:Int):g60 (Ze l) n=Xa (Ze (ZpS l n)):=by
 rw [Zu8]
 have fin:∀ m:Nat,m≤l.length→(Zl ((0:Int)≤(m:Int))<|Zl (((m:Nat):Int)≤(l.length:Int))<|Zl (ZB E0 (Xy (Xh (m:Int)) (Ze l)) 8)<|Zl (ZB (Xy (Xh (m:Int)) (Ze l)) (E0++[[I n]]) 8)<|Zl ((0:Int)≤(m:Int))<|Zl (((m:Nat):Int)≤(l.length:Int))<|
   Zl (ZB ((Xy (Xh (m:Int)) (Ze l))++(E0++[[I n]])) (Xz (Xh (m:Int)) (Ze l)) 8)<|some ((((Xy (Xh (m:Int)) (Ze l))++(E0++[[I n]]))++(Xz (Xh (m:Int)) (Ze l)))))=Xa (Ze (l.take m++[n]++l.drop m)):=fun m d=>by
  rw [Zu (by omega),Zu (by omega),Zu (ZaI (by rw [Xu,JH];simp;omega)),Zu (ZaI (by rw [Xu,JH];simp;omega)),Zu (by omega),Zu (by omega),Zu (ZaI (by rw [XD,Xu,XV,JH];simp;omega))];simp [Ze,Um,Uq,Zhl]
 refine (WU (F:=fun k z=>Zj2 k (Ze l) n z) (n:=l.length) (fun m=>Ze (if isO n l[m]? = Xc then l else l.take m++[n]++l.drop m)) (fun i=>atP (fun x=>!decide (x < n)) l i) (by omega) (fun k i a=>?_) (fun k=>?_) (JL (fun x=>!decide (x < n)) l) (Y0 _ _) (fun j b=>?_) (fun h=>?_)).trans rfl
 ·show Zj2 (k+1) _ _ _=_;rw [ZiG,JH,P4 (Za0 a)];refine (JI a _).trans ?_;rw [ZaG a (by omega),Vk _ a];by_cases h:l[i] < n
  ·rw [P4 (by simpa [P0] using h),P3 (by simp [h])]
  ·rw [P3 (by simpa [P0] using h),P4 (Za0 a),P4 (by simp [h])];refine (JI a _).trans ?_;rw [Xm a];by_cases he:l[i]=n
   ·rw [P4 (by simpa [P0] using he)];simp [he,isO]
   ·rw [P3 (by simpa [P0] using he),fin i (by omega)];simp [he,isO]
 ·show Zj2 (k+1) _ _ _=_;rw [ZiG,JH,P3 (ZaQ (Xt _)),P3 (ZaQ (Xt _)),fin l.length (Xt _)];simp [isO]
 ·have:=Y0 (fun x=>!decide (x < n)) l;rw [Vk _ (by omega)];exact KL _ _ j (by omega) b
 ·rw [Vk _ h];exact KX _ _ h
def Asc (l:List Int):Prop:=l.Pairwise (· < ·)
def Zgo:∀ {l m:List Int},Asc l→Asc m→(∀ x,x∈l↔x∈m)→l=m
 | [], [], _, _, _ => rfl
 | [], y :: m, _, _, h => absurd ((h y).2 (by simp)) (by simp)
 | x :: l, [], _, _, h => absurd ((h x).1 (by simp)) (by simp)
 | x :: l, y :: m, hl, hm, h => by
  obtain ⟨f,i⟩:=Ta.1 hl;obtain ⟨g,j⟩:=Ta.1 hm
  have d:x=y:=by
   have a:=(h x).1 (by simp);have b:=(h y).2 (by simp);rcases Xr.1 a with a | a
   ·exact a
   ·rcases Xr.1 b with b | b
    ·exact b.symm
    ·have:=f y b;have:=g x a;omega
  subst d;refine congrArg _ (Zgo i j fun z=>?_);constructor
  ·intro c;have:=f z c;rcases Xr.1 ((h z).1 (UD _ c)) with e | e
   ·omega
   ·exact e
  ·intro c;have:=g z c;rcases Xr.1 ((h z).2 (UD _ c)) with e | e
   ·omega
   ·exact e
def ZfC {l:List Int} (h:Asc l) (n:Int):Asc (ZpS l n)∧(∀ x,x∈ZpS l n↔x=n∨x∈l)∧(ZpS l n).length≤l.length+1:=by
 have p:=Y0 (fun x=>!decide (x < n)) l
 have g:∀ x∈l.take (JL (fun x=>!decide (x < n)) l),x < n:=fun x d=>by
  obtain ⟨i,k,rfl⟩:=UU d;rw [Xu] at k;have:=KL (fun x=>!decide (x < n)) l i (by omega) (by omega);rw [Tk];simpa using this
 unfold ZpS;by_cases hh:isO n l[JL (fun x=>!decide (x < n)) l]? = Xc
 ·rw [P4 hh];refine ⟨h,fun x=>⟨.inr,fun d=>?_⟩,by omega⟩;rcases d with rfl | d
  ·cases hy:l[JL (fun y=>!decide (y < x)) l]? with
   | none => rw [hy] at hh; cases hh
   | some y =>
    rw [hy] at hh;have e:y=x:=of_decide_eq_true hh;subst e;exact Xo hy
  ·exact d
 ·rw [P3 hh]
  have j:∀ x∈l.drop (JL (fun x=>!decide (x < n)) l),n < x:=fun x d=>by
   obtain ⟨i,k,rfl⟩:=UU d;rw [XV] at k;have m:JL (fun x=>!decide (x < n)) l < l.length:=by omega
   have q:=KX (fun x=>!decide (x < n)) l m;rw [Xm m] at hh;have r:¬ l[JL (fun x=>!decide (x < n)) l]=n:=fun e=>hh (by simp [e,isO]);have s:¬ l[JL (fun x=>!decide (x < n)) l] < n:=by simpa using q
   rw [TN]
   cases i with
   | zero => simp only [Nat.add_zero]; omega
   | succ i =>
    have:=(UB.1 h) (JL (fun x=>!decide (x < n)) l) (JL (fun x=>!decide (x < n)) l+(i+1)) (by omega) (by omega) (by omega);omega
  refine ⟨?_,fun x=>?_,by simp;omega⟩
  ·unfold Asc;rw [XB,T1];refine ⟨h.sublist (List.take_sublist _ _),?_,fun a o b f=>?_⟩
   ·rw [Tt,Ta];exact ⟨fun b f=>j b f,h.sublist (List.drop_sublist _ _)⟩
   ·rw [Tt,Xr] at f;rcases f with rfl | f
    ·exact g a o
    ·have:=g a o;have:=j b f;omega
  ·have e:x∈l↔x∈l.take (JL (fun x=>!decide (x < n)) l)∨x∈l.drop (JL (fun x=>!decide (x < n)) l):=by
    rw [← Xq,UH]
   rw [e,Xq,Xq,XF];constructor
   ·rintro ((a | a) | a)
    ·exact .inr (.inl a)
    ·exact .inl a
    ·exact .inr (.inr a)
   ·rintro (a | a | a)
    ·exact .inl (.inr a)
    ·exact .inl (.inl a)
    ·exact .inr a
def ZpD {l:List Int} (h:l.Pairwise (·≤·)):Asc (Lib.compact l)∧∀ x,x∈Lib.compact l↔x∈l:=by
 have s:∀ j,j < l.length→l.toArray[j]! = l[j]!:=fun j g=>by simp
 constructor
 ·unfold Asc Lib.compact Lib.compactUpTo;rw [List.pairwise_map];refine List.Pairwise.imp_of_mem ?_ ((List.pairwise_lt_range).filter _);intro a b t u v;obtain ⟨d,w⟩:=Uu.1 t;obtain ⟨f,m⟩:=Uu.1 u;rw [Uf] at d f;have z:=of_decide_eq_true m;have n:l.toArray[b]!≠l.toArray[b-1]!:=z.resolve_left (by omega);have k:l.toArray[b]! = l[b]:=by simp [f]
  have o:l.toArray[b-1]! = l[b-1]:=by simp [show b-1 < l.length by omega]
  have A:l.toArray[a]! = l[a]:=by simp [d]
  rw [k,o] at n;rw [k,A];have p:=UB.1 h;have E:=p (b-1) b (by omega) f (by omega);by_cases hab2:a=b-1
  ·subst hab2;omega
  ·have G:=p a (b-1) d (by omega) (by omega);omega
 ·intro x;unfold Lib.compact Lib.compactUpTo;rw [Xs];constructor
  ·rintro ⟨j,g,rfl⟩;have g:=Uf.1 (Uu.1 g).1;have:l.toArray[j]! = l[j]:=by simp [g]
   rw [this];exact XC g
  ·intro C
   have c:JL (fun y=>decide (y=x)) l < l.length:=by
    obtain ⟨i,D,q⟩:=UU C;by_cases hc:JL (fun y=>decide (y=x)) l < l.length
    ·exact hc
    ·have:=KL (fun y=>decide (y=x)) l i D (by omega);rw [q] at this;simp at this
   have r:=of_decide_eq_true (KX (fun y=>decide (y=x)) l c);refine ⟨JL (fun y=>decide (y=x)) l,Uu.2 ⟨Uf.2 c,?_⟩,by simp [c,r]⟩;unfold Lib.keeps;rw [P5];by_cases h0:JL (fun y=>decide (y=x)) l=0
   ·exact .inl h0
   ·right;have:=KL (fun y=>decide (y=x)) l (JL (fun y=>decide (y=x)) l-1) (by omega) (by omega);have k:l.toArray[JL (fun y=>decide (y=x)) l]! = l[JL (fun y=>decide (y=x)) l]:=by simp [c]
    have o:l.toArray[JL (fun y=>decide (y=x)) l-1]! = l[JL (fun y=>decide (y=x)) l-1]:=by simp [show JL (fun y=>decide (y=x)) l-1 < l.length by omega]
    rw [k,o,r];intro e;rw [← e] at this;simp at this
def Zmx (k s d c:Int):Asc (ZbB k s d c)∧∀ x,x∈ZbB k s d c↔x∈Ko k s d c:=by
 have g:((Ko k s d c).mergeSort fun x y=>decide (x≤y)).Pairwise (·≤·):=by
  have:=List.pairwise_mergeSort (le:=fun x y:Int=>decide (x≤y)) (fun a b c e f=>by simp only [P5] at *; omega) (fun a b=>by simp only [XX,P5];omega) (Ko k s d c);exact this.imp fun h=>by simpa using h
 obtain ⟨e,f⟩:=ZpD g;refine ⟨e,fun x=>?_⟩;rw [ZbB,f x];exact (List.mergeSort_perm _ _).mem_iff
def l24 (c:Call) (y:0≤c.p) (m:c.p < 2^62) (z:c.n≤8):∀ (j i a:Nat) (b:List Int),i+j=c.n.toNat→j < a→Asc b→b.length≤i→(∀ x,x∈b↔∃ q:Nat,q < i∧x=c.p+q)→
  ∃ l,Zpj a c.g c.r c.p c.c c.v c.o c.h c.f c.l c.n c.u c.w (Ze b) (i:Int)=Xa (Ze l)∧Asc l∧∀ x,x∈l↔x=c.r∨∃ q:Nat,q < c.n.toNat∧x=c.p+q:=by
 intro j
 induction j with
 | zero =>
  intro i a b h n d o e;obtain ⟨f,rfl⟩:∃ f,a=f+1:=⟨a-1,by omega⟩;obtain ⟨g,k,p⟩:=ZfC d c.r;refine ⟨ZpS b c.r,?_,g,fun x=>?_⟩
  ·rw [ZiX,P3 (by simp only [CQ];omega),s60 b (by omega),Xj]
  ·rw [k,e,show i=c.n.toNat by omega]
 | succ j ih =>
  intro i a b h n d o e;obtain ⟨f,rfl⟩:∃ f,a=f+1:=⟨a-1,by omega⟩;obtain ⟨g,k,p⟩:=ZfC d (c.p+(i:Int));have r:P1 .add .i64 c.p (i:Int)=c.p+(i:Int):=JP (by omega) (by omega);have s:P1 .add .i64 (i:Int) 1=((i+1:Nat):Int):=by rw [JP (by omega) (by omega)];omega
  obtain ⟨l,t,u,v⟩:=ih (i+1) f (ZpS b (c.p+(i:Int))) (by omega) (by omega) g (by omega) (fun x=>by
   rw [k,e];constructor
   ·rintro (rfl | ⟨q,w,rfl⟩)
    ·exact ⟨i,by omega,rfl⟩
    ·exact ⟨q,by omega,rfl⟩
   ·rintro ⟨q,w,rfl⟩;by_cases hqi:q=i
    ·exact .inl (by rw [hqi])
    ·exact .inr ⟨q,by omega,rfl⟩)
  exact ⟨l,by rw [ZiX,P4 (by simp only [CQ];omega),r,s60 b (by omega),Xj,s];exact t,u,v⟩
def s24 (core n:Int) (c:Call) (t:n < 2^62) (h:wfB core n c=Xc):g24 c.g c.r c.p c.c c.v c.o c.h c.f c.l c.n c.u c.w=Xa (Ze (ZbB c.g c.r c.p c.n)):=by
 have u:=of_decide_eq_true h;obtain ⟨k,m⟩:=Zmx c.g c.r c.p c.n;have d:∀ z:Int,Asc [z]:=fun z=>Ty _ _;rw [ZvK];refine ZE (fun b=>?_) fun b=>?_
 ·simp only [CQ] at b;have e:ZbB c.g c.r c.p c.n = [c.p]:=Zgo k (d _) fun x=>by rw [m,Ko,P4 b]
  rw [e];rfl
 refine ZE (fun f=>?_) fun f=>?_
 ·simp only [CQ] at b f;obtain ⟨l,o,p,q⟩:=l24 c (by omega) (by omega) (by omega) c.n.toNat 0 ZG [] (by omega) (VN (by omega)) List.Pairwise.nil (Xt _) (fun x=>by simp)
  have e:ZbB c.g c.r c.p c.n=l:=Zgo k p fun x=>by
   rw [m,q,Ko,P3 b,P4 f,Xr,Xs];constructor
   ·rintro (a | ⟨i,g,rfl⟩)
    ·exact .inl a
    ·have g:=Uf.1 g;exact .inr ⟨i,g,JP (by omega) (by omega)⟩
   ·rintro (a | ⟨i,g,rfl⟩)
    ·exact .inl a
    ·exact .inr ⟨i,Uf.2 g,JP (by omega) (by omega)⟩
  rw [e];exact o
 refine ZE (fun j=>?_) fun j=>?_
 ·simp only [CQ] at b f j;obtain ⟨r,s,v⟩:=ZfC (d c.r) c.p
  have e:ZbB c.g c.r c.p c.n=ZpS [c.r] c.p:=Zgo k r fun x=>by
   rw [m,s,Ko,P3 b,P3 f,P4 j];simp [or_comm]
  rw [e];have:=s60 [c.r] (by simp) c.p;exact congrArg (fun x=>UK x Xa) this
 ·simp only [CQ] at b f j;have e:ZbB c.g c.r c.p c.n = [c.r]:=Zgo k (d _) fun x=>by rw [m,Ko,P3 b,P3 f,P3 j]
  rw [e];rfl
def Zgc {core n:Int} {c:Call} (f:n < 2^62) (h:wfB core n c=Xc):∀ x∈ZbB c.g c.r c.p c.n,0≤x∧x < n:=by
 have g:=of_decide_eq_true h;intro x b;have b:=((Zmx c.g c.r c.p c.n).2 x).1 b;unfold Ko at b;split at b
 ·simp at b;omega
 ·split at b
  ·rcases Xr.1 b with a | a
   ·omega
   ·obtain ⟨i,d,rfl⟩:=Xs.1 a;have d:=Uf.1 d;have e:P1 .add .i64 c.p (i:Int)=c.p+(i:Int):=JP (by omega) (by omega);rw [e];omega
  ·split at b
   ·simp at b;omega
   ·simp at b;omega
def Zx1 (r:Req) (l:List Int) (e:Int):Int×Int×Int×Int×Int×Int×Int×Int×Int×Int×Int×Int×Int×Int×Int×Int×Int×Int×Int×Int×LL×Int×Int×Int×Int×Int×Int×Bool×LL×Int:=(r.id.c,r.id.op,r.id.k,r.a.g,r.a.r,r.a.p,r.a.c,r.a.v,r.a.o,r.a.h,r.a.f,r.a.l,r.a.n,r.a.u,r.a.w,r.s,r.i,r.e.id.c,r.e.id.op,r.e.id.k,Zd r.e.q,r.e.d.g,r.e.d.t,r.e.d.h,r.e.d.j,r.e.d.i,r.e.d.f,r.e.d.m,Ze l,e)
def Zwz:Vx:=⟨VH,0,⟨0,0,0⟩⟩
def getS (a:List Vx) (i:Int):Vx:=a[i.toNat]?.getD Zwz
def Zb8 {γ:Type} {l:List Vx} {i:Int} (b:0≤i) (h:i < l.length) (k:ShsT Zf8→Option γ):Zn (l.map VG) i Zf8 k=k (Zu9 (getS l i)):=by
 obtain ⟨j,rfl⟩:∃ j:Nat,i=j:=⟨i.toNat,by omega⟩;have a:j < l.length:=by omega
 refine (ZdL a k).trans ?_;simp [getS,a]
def Zpi {l:List Vx} {i:Int} (b:0≤i) (h:i < l.length):getS l i∈l:=by
 have a:i.toNat < l.length:=by omega
 unfold getS;rw [Xm a];exact XC a
def Ke (a:List Vx) (b:List Reg) (c:Call):Int:=
 if JW c.l c.h=Xb then 6 else if JY b c.l c.h < 0 then 11 else if Zgj a c.p 1=Xc then 3 else 0
def Zqj (a:Int) (b:List Vx) (d:List Int) (n:Yt) (c:Call):Int:=
 if c.g=2 then (if JN n.d c.o c.h c.f a c.l c.n≠0 then JN n.d c.o c.h c.f a c.l c.n else if Zgj b c.p c.n=Xc then 3 else if 8≤n.q.length then 9 else 0)
 else if c.g=3 then (if Zgj b c.p 1=Xc then 3 else if 8≤n.q.length then 9 else 0)
 else if c.g=4 then (if n.d.g=3∨n.d.g=5∨n.d.g=6 then 5 else if P1 .and .i64 n.d.j 4=0 then 8 else if 8≤n.q.length then 9 else if d.any (fun x=>decide (c.c=x))=Xb then 10 else 0)
 else 0
def ZnQ (a:Int) (b:List Vx) (d:List Int) (s:Vx) (c:Call):Int:=if Y2 s=Xc then 2 else Zqj a b d s.b c
def s31 (core a:Int) (d:List Vx) (g:List Int) (n:Yt) (c:Call) (i:d.length < 2^62) (j:g.length < 2^63) (k:wfB core d.length c=Xc) :
  g31 a (d.map VG) (Ze g) n.id.c n.id.op n.id.k (Zd n.q) n.d.g n.d.t n.d.h n.d.j n.d.i n.d.f n.d.m c.g c.r c.p c.c c.v c.o c.h c.f c.l c.n c.u c.w=Xa (Zqj a d g n c):=by
 have w:=of_decide_eq_true k;obtain ⟨⟨l,m,o⟩,b,⟨p,q,cs,cr,r,cl,s⟩⟩:=n;rw [Zup];simp only [s63,s64 g j];unfold Zqj;have h:(Xg (Zd b):Int)=b.length:=by simp [Zd]
 refine ZE (fun e=>?_) fun e=>?_
 ·simp only [CQ] at e;rw [P4 e,s28 d i c.p c.n (by omega) (by omega) (by omega)];simp only [Xj,h]
  repeat' (with_reducible refine ZE (fun _=>?_) (fun _=>?_))
  all_goals (refine congrArg Xa ?_;(try simp only [CQ] at *);grind)
 simp only [CQ] at e;rw [P3 e];refine ZE (fun f=>?_) fun f=>?_
 ·simp only [CQ] at f;rw [P4 f,s28 d i c.p 1 (by omega) (by omega) (by omega)];simp only [Xj,h]
  repeat' (with_reducible refine ZE (fun _=>?_) (fun _=>?_))
  all_goals (refine congrArg Xa ?_;(try simp only [CQ] at *);grind)
 simp only [CQ] at f;rw [P3 f];simp only [Xj,h]
 repeat' (with_reducible refine ZE (fun _=>?_) (fun _=>?_))
 all_goals (refine congrArg Xa ?_;(try simp only [CQ] at *);grind)
def Zhe (core op a:Int) (b:List Vx) (d:List Reg) (e:List Int) (c:Call):Req×List Int×Int:=
 if c.g=1 then (if Ke b d c≠0 then (Zfi,[],Ke b d c) else (⟨⟨core,op,0⟩,c,JY d c.l c.h,a,VH⟩,ZbB c.g c.r c.p c.n,0))
 else if ZnQ a b e (getS b c.r) c≠0 then (Zfi,[],ZnQ a b e (getS b c.r) c)
 else if JY d (getS b c.r).b.d.t (getS b c.r).b.d.h < 0 then (Zfi,[],11)
 else (⟨⟨core,op,0⟩,c,JY d (getS b c.r).b.d.t (getS b c.r).b.d.h,a,(getS b c.r).b⟩,ZbB c.g c.r c.p c.n,0)
def Zgm (a:List Vx) (c:Call):Bool:=(ZbB c.g c.r c.p c.n).any fun i=>ZeX (getS a i)
def Zbk (core op a:Int) (n:Int) (c:Call):Bool:=decide (0≤core∧core < 32∧1≤op∧op≤1073741824∧(a=32∨a=39))&&wfB core n c
def Zcp (core op a:Int) (b:List Vx) (d:List Reg) (e:List Int) (c:Call):Req×List Int×Int:=
 if Zbk core op a b.length c=Xb then (Zfi,[],1) else if Zgm b c=Xc then (Zfi,[],4) else Zhe core op a b d e c
def Zcd (p:Req×List Int×Int):=Zx1 p.1 p.2.1 p.2.2
def Zm5 {a:List Vx} {b:List Reg} {c:Call} (h:Ke a b c=0):JW c.l c.h=Xc∧0≤JY b c.l c.h∧Zgj a c.p 1=Xb:=by
 unfold Ke at h;split at h
 ·omega
 ·split at h
  ·omega
  ·split at h
   ·omega
   ·rename_i d f e;exact ⟨by simpa using d,by omega,by simpa using e⟩
def ZkQ {a:List Vx} (h:ZuL a):a.length≤70:=h.1
def Zog {a:List Vx} (h:ZuL a) {i:Int} (b:0≤i) (c:i < a.length):(getS a i).b.q.length≤20:=h.2 _ (Zpi b c)
set_option maxHeartbeats 4000000 in
def ZwA (core op a:Int) (b:List Vx) (e:List Reg) (m:List Int) (c:Call) (p:ZuL b) (q:e.length < 2^63) (s:m.length < 2^63) (r:wfB core b.length c=Xc) (k i:Nat) (t:(ZbB c.g c.r c.p c.n).length≤i) :
  Zp4 (k+1) core op a (b.map VG) (e.map JQ) (Ze m) c.g c.r c.p c.c c.v c.o c.h c.f c.l c.n c.u c.w 0 0 0 0 0 0 0 0 0 0 0 0 0 0 0 0 0 0 0 0 E0 0 0 0 0 0 0 Xb 0 0 0 0 0 0 0 0 0 0 0 0 0 0 0 0 0 0 0 0 E0 0 0 0 0 0 0 Xb (Ze (ZbB c.g c.r c.p c.n)) (i:Int)=Xa (Zcd (Zhe core op a b e m c)):=by
 have w:=of_decide_eq_true r;have u:=ZkQ p;rw [Zno,JH,P3 (ZaQ t)];unfold Zhe;refine ZE (fun j=>?_) fun j=>?_
 ·simp only [CQ] at j;rw [P4 j];refine (congrArg (fun x=>UK x _) (s26 _ _)).trans ?_;rw [Xj]
  cases hv:JW c.l c.h with
  | false =>
   have g:Ke b e c=6:=by unfold Ke;rw [P4 hv]
   rw [g];rfl
  | true =>
   have h:¬ JW c.l c.h=Xb:=by rw [hv];decide
   rw [P3 (by simp)];refine (congrArg (fun x=>UK x _) (s27 e q _ _)).trans ?_;rw [Xj];refine ZE (fun d=>?_) fun d=>?_
   ·simp only [CQ] at d;have g:Ke b e c=11:=by unfold Ke;rw [P3 h,P4 d]
    rw [g];rfl
   ·simp only [CQ] at d;refine (congrArg (fun x=>UK x _) (s28 b (by omega) c.p 1 (by omega) (by omega) (by omega))).trans ?_;rw [Xj];refine ZE (fun f=>?_) fun f=>?_
    ·have g:Ke b e c=3:=by unfold Ke;rw [P3 h,P3 d,P4 f]
     rw [g];rfl
    ·have g:Ke b e c=0:=by unfold Ke;rw [P3 h,P3 d,P3 f]
     rw [g];rfl
 ·simp only [CQ] at j;have n:0≤c.r:=by omega
  have o:c.r < b.length:=by omega
  have v:=Zog p n o;rw [P3 j];unfold ZnQ;refine (Zb8 n o _).trans ?_;refine (congrArg (fun x=>UK x _) (s29 _)).trans ?_;rw [Xj];refine ZE (fun d=>?_) fun d=>?_
  ·rw [P4 d];rfl
  ·rw [P3 d];refine (Zb8 n o _).trans ?_;refine (congrArg (fun x=>UK x _) (s30 (getS b c.r).b (by omega))).trans ?_;rw [Xj];refine (congrArg (fun x=>UK x _) (s31 core a b m (getS b c.r).b c (by omega) s r)).trans ?_;rw [Xj];refine ZE (fun f=>?_) fun f=>?_
   ·simp only [CQ] at f;rw [P4 f];rfl
   ·simp only [CQ] at f;rw [P3 f];refine (congrArg (fun x=>UK x _) (s32 ..)).trans ?_;rw [Xj];refine (congrArg (fun x=>UK x _) (s27 e q (getS b c.r).b.d.t (getS b c.r).b.d.h)).trans ?_;rw [Xj];refine ZE (fun l=>?_) fun l=>?_
    ·simp only [CQ] at l;rw [P4 l];rfl
    ·simp only [CQ] at l;rw [P3 l];rfl
def Zod (d:List Vx) (c:Call) {e:Type} (a b:e):(if (U3 0 (ZbB c.g c.r c.p c.n).length).all (atB (fun i=>!ZeX (getS d i)) (ZbB c.g c.r c.p c.n))=Xc then a else b)=if Zgm d c=Xc then b else a:=by
 rw [Zlz];unfold Zgm;rw [T6]
 cases (ZbB c.g c.r c.p c.n).all (fun i=>!ZeX (getS d i))<;>rfl
def ZlQ (c:Call) (b:c.n≤1000):(ZbB c.g c.r c.p c.n).length≤1001:=by
 have a:=Zwi ((Ko c.g c.r c.p c.n).mergeSort fun x y=>decide (x≤y));rw [List.length_mergeSort] at a;refine XN a ?_;unfold Ko;split
 ·simp
 ·split
  ·simp;omega
  ·split<;>simp
set_option maxHeartbeats 4000000 in
def s9 (core op a:Int) (b:List Vx) (f:List Reg) (g:List Int) (c:Call) (q:ZuL b) (t:f.length < 2^63) (u:g.length < 2^63) (r:c.n≤1000) :
    g9 core op a (b.map VG) (f.map JQ) (Ze g) c.g c.r c.p c.c c.v c.o c.h c.f c.l c.n c.u c.w=Xa (Zcd (Zcp core op a b f g c)):=by
  have v:=ZkQ q
  have o:wfB core b.length c=Xc→Zp4 ZG core op a (b.map VG) (f.map JQ) (Ze g) c.g c.r c.p c.c c.v c.o c.h c.f c.l c.n c.u c.w 0 0 0 0 0 0 0 0 0 0 0 0 0 0 0 0 0 0 0 0 E0 0 0 0 0 0 0 Xb 0 0 0 0 0 0 0 0 0 0 0 0 0 0 0 0 0 0 0 0 E0 0 0 0 0 0 0 Xb (Ze (ZbB c.g c.r c.p c.n)) 0=Xa (Zcd (if Zgm b c=Xc then (Zfi,[],4) else Zhe core op a b f g c)):=fun m=>by
    have:=Zfa (F:=fun k z=>Zp4 k core op a (b.map VG) (f.map JQ) (Ze g) c.g c.r c.p c.c c.v c.o c.h c.f c.l c.n c.u c.w 0 0 0 0 0 0 0 0 0 0 0 0 0 0 0 0 0 0 0 0 E0 0 0 0 0 0 0 Xb 0 0 0 0 0 0 0 0 0 0 0 0 0 0 0 0 0 0 0 0 E0 0 0 0 0 0 0 Xb (Ze (ZbB c.g c.r c.p c.n)) z) (n:=(ZbB c.g c.r c.p c.n).length) (fin:=Xa (Zcd (Zhe core op a b f g c))) (bad:=Xa (Zcd (Zfi,[],4))) (atB (fun i=>!ZeX (getS b i)) (ZbB c.g c.r c.p c.n)) (by have:=ZlQ c r;omega) 0 (by omega)
      (fun k i _ j=>by
        show Zp4 (k+1) core op a (b.map VG) (f.map JQ) (Ze g) c.g c.r c.p c.c c.v c.o c.h c.f c.l c.n c.u c.w 0 0 0 0 0 0 0 0 0 0 0 0 0 0 0 0 0 0 0 0 E0 0 0 0 0 0 0 Xb 0 0 0 0 0 0 0 0 0 0 0 0 0 0 0 0 0 0 0 0 E0 0 0 0 0 0 0 Xb (Ze (ZbB c.g c.r c.p c.n)) (i:Int)=_;obtain ⟨w,y⟩:=Zgc (by omega) m _ (XC j);have s:=ZlQ c r;rw [Zno,JH,P4 (Za0 j)];refine (JI j _).trans ?_;refine (Zb8 w y _).trans ?_;refine (congrArg (fun x=>UK x _) (s25 _)).trans ?_;rw [Xj,ZaG j (by omega),ZfH _ j]
        cases ZeX (getS b (ZbB c.g c.r c.p c.n)[i])<;>rfl)
      (fun k i j=>ZwA core op a b f g c q t u m k i j)
    rw [Nat.sub_zero,Zod] at this;refine Eq.trans this ?_;split<;>rfl
  by_cases hk:1≤c.g∧c.g≤6
  · have p:=s23 core b.length c (by omega) (by omega) hk.1 hk.2
    rw [Zv9,Xi,p];simp only [Xj];unfold Zcp;by_cases e:Zbk core op a b.length c=Xb
    · rw [P4 e]
      unfold Zbk at e
      repeat' (with_reducible refine ZE (fun _=>?_) (fun _=>?_))
      all_goals first
        | rfl
        | (exfalso; simp only [CQ] at *; rw [Bool.and_eq_false_iff, decide_eq_false_iff_not] at e; rename_i d; (try simp only [XT, Ue] at d); rcases e with e | e
           · omega
           · rw [e] at d;cases d)
    · rw [P3 e]
      have l:Zbk core op a b.length c=Xc:=by simpa using e
      unfold Zbk at l;rw [Xk,P5] at l;obtain ⟨D,m⟩:=l;rw [m,s24 core b.length c (by omega) m,← o m]
      repeat' (with_reducible refine ZE (fun _=>?_) (fun _=>?_))
      all_goals first
        | rfl
        | (exfalso; simp only [CQ, Ti, XQ] at * <;> omega)
  · have e:Zbk core op a b.length c=Xb:=by
      cases h:Zbk core op a b.length c with
      | false => rfl
      | true => exact absurd (ZqH (core := core) (n := b.length) (by unfold Zbk at h; rw [Xk] at h; exact h.2)) hk
    unfold Zcp;rw [P4 e,Zv9];refine ZE (fun _=>rfl) fun A=>?_;refine ZE (fun _=>rfl) fun C=>?_;exfalso;simp only [CQ] at A C;omega
def K9 (z:Int):0≤IntKind.u64.wrap z:=by
 simp only [Xl];have:IntKind.u64.signed=Xb:=rfl;simp [this,IntKind.bits];omega
def s21 (a b:Int):Ret (fun _=>True) (g21 a b):=by
 rw [Zu7];refine Zh (place _ _ (by decide) (by decide)) fun _ _=>Zg (by decide) (Zg (by decide) (Zh (place _ _ (by decide) (by decide)) fun _ _=>Za (fun _=>?_) fun _=>?_))
 ·exact Zg (by decide) (Zh (place _ _ (by decide) (by decide)) fun _ _=>Zg (by decide) (Zc trivial))
 ·exact Zg (by decide) (Zh (place _ _ (by decide) (by decide)) fun _ _=>Zg (by decide) (Zg (by decide) (Zh (place _ _ (by decide) (by decide)) fun _ _=>Zg (by decide) (Zc trivial))))
def ZvT (c:Call):Qt33:=(c.g,c.r,c.p,c.c,c.v,c.o,c.h,c.f,c.l,c.n,c.u,c.w)
def Zbd {γ:Type} {P:γ→Prop} {l:List Reg} {z:Int} {k:(Int×Int×Bool)→Option γ} (b:0≤z) (h:z.toNat < l.length) (a:∀ r,Ret P (k r)):Ret P (Zn (l.map JQ) z [.int .i64,.int .i64,.bool] k):=by
 have e:z=((z.toNat:Nat):Int):=by omega
 have:=Kl h k;rw [← e] at this;exact Zi this (a _)
def Zrj {d:Nat} {cs:List AV} (h:TyR Tryz.prog (d+2) 35 cs):∃ m n o p q r s t u,cs = [I m,I n,I o,I p,I q,I r,I s,I t,I u]:=by
 rw [TyR] at h;simp only [Tryz.underlying35] at h;obtain ⟨v,rfl,w,a⟩:=h
 obtain ⟨b,c,e,f,g,i,j,k,l,rfl⟩:∃ b c e f g i j k l,v = [b,c,e,f,g,i,j,k,l]:=by
  match v,w with
  | [b, c, e, f, g, i, j, k, l], _ => exact ⟨b, c, e, f, g, i, j, k, l, rfl⟩
 obtain ⟨m,rfl⟩:=VL (a 0 _ _ rfl rfl);obtain ⟨n,rfl⟩:=VL (a 1 _ _ rfl rfl);obtain ⟨o,rfl⟩:=VL (a 2 _ _ rfl rfl);obtain ⟨p,rfl⟩:=VL (a 3 _ _ rfl rfl);obtain ⟨q,rfl⟩:=VL (a 4 _ _ rfl rfl);obtain ⟨r,rfl⟩:=VL (a 5 _ _ rfl rfl);obtain ⟨s,rfl⟩:=VL (a 6 _ _ rfl rfl);obtain ⟨t,rfl⟩:=VL (a 7 _ _ rfl rfl);obtain ⟨u,rfl⟩:=VL (a 8 _ _ rfl rfl);exact ⟨m,n,o,p,q,r,s,t,u,rfl⟩
def Zmn (a:List Reg) (b n:Int) (h:0≤JY a b n):JY a b n < a.length:=by
 unfold JY Zaf at h ⊢;split at h
 ·rw [P4 ‹_›];omega
 ·omega
def Zf7 {a:List Vx} (h:∀ s∈a,s.op=0∧s.lock=zid) (i:Int):ZeX (getS a i)=Xb:=by
 have e:(getS a i).op=0∧(getS a i).lock=zid:=by
  unfold getS
  cases e:a[i.toNat]? with
  | none => exact ⟨rfl, rfl⟩
  | some s => exact h s (Xo e)
 unfold ZeX;rw [e.1,e.2];rfl
abbrev Tr {γ:Type} (o:Option γ):Prop:=Ret (fun _=>True) o
def Zgk (n:Nat) (x:LL):Prop:=x.length≤n∧∀ c∈x,∃ a b d e f g:Int,c = [I a,I b,I d,I e,I f,I g]
def V0 (n:Nat) (x:LL):Prop:=x.length≤n∧∀ c∈x,∃ (a b d:Int) (e:LL),c = [I a,I b,I d,AV.slice Xb 6 e]∧Zgk n e
def WA {γ:Type} {P:γ→Prop} {n:Nat} {x:LL} (h:Zgk n x) {z:Int} (i:0≤z) (m:z < (x.length:Int)) {k:(Int×Int×Int×Int×Int×Int)→Option γ} (j:∀ r,Ret P (k r)) :
  Ret P (Zn x z [.int .i64,.int .i64,.int .i64,.int .i64,.int .i64,.int .i64] k):=by
 have c:z.toNat < x.length:=by omega
 obtain ⟨a,b,d,e,f,g,l⟩:=h.2 _ (XC c);exact Zi (JS (sh:=[.int .i64,.int .i64,.int .i64,.int .i64,.int .i64,.int .i64]) (cs:=x[z.toNat]) (r:=(a,b,d,e,f,g)) k i (Xm c) (by rw [l];rfl)) (j _)
def K8 {γ:Type} {P:γ→Prop} {n:Nat} {x:LL} (h:V0 n x) {z:Int} (g:0≤z) (l:z < (x.length:Int)) {k:(Int×Int×Int×LL)→Option γ}
  (i:∀ a b d c,Zgk n c→x[z.toNat]? = Xa [I a,I b,I d,AV.slice Xb 6 c]→Ret P (k (a,b,d,c))):Ret P (Zn x z [.int .i64,.int .i64,.int .i64,.slice 6] k):=by
 have e:z.toNat < x.length:=by omega
 obtain ⟨a,b,d,c,f,j⟩:=h.2 _ (XC e);exact Zi (JS (sh:=[.int .i64,.int .i64,.int .i64,.slice 6]) (cs:=x[z.toNat]) (r:=(a,b,d,c)) k g (Xm e) (by rw [f];rfl)) (i _ _ _ _ j (by rw [Xm e,f]))
def Zpn (n:Nat):Zgk n []:=⟨X7 _,fun _ h=>by cases h⟩
def Y4 (n:Nat):V0 n []:=⟨X7 _,fun _ h=>by cases h⟩
def Zgw {n m:Nat} {x:LL} (h:Zgk n x) (a:n≤m):Zgk m x:=⟨XN h.1 a,h.2⟩
def YO {n m:Nat} {x:LL} (h:V0 n x) (f:n≤m):V0 m x:=
 ⟨XN h.1 f,fun c g=>by obtain ⟨a,b,d,i,e,j⟩:=h.2 c g;exact ⟨a,b,d,i,e,Zgw j f⟩⟩
def Zlg {n:Nat} {x y:LL} (i:∀ c∈y,c∈x∨∃ a b d e f g:Int,c = [I a,I b,I d,I e,I f,I g]) (h:Zgk n x) {m:Nat} (j:y.length≤m):Zgk m y:=
 ⟨j,fun c k=>(i c k).elim (fun l=>h.2 c l) id⟩
def ZlV {n m:Nat} {x y:LL} (e:n≤m) (g:∀ c∈y,c∈x∨∃ (a b d:Int) (f:LL),c = [I a,I b,I d,AV.slice Xb 6 f]∧Zgk m f) (h:V0 n x) (i:y.length≤m):V0 m y:=
 ⟨i,fun c j=>(g c j).elim (fun k=>(YO h e).2 c k) id⟩
def Wq (l:LL) (i o:Nat) (c:List AV):(Zw l i o c).length=l.length:=by simp [Zw]
def ZnM {l:LL} {i o:Nat} {v c:List AV} (h:c∈Zw l i o v):∃ r∈l,c=r∨c=setCells r o v:=by
 obtain ⟨j,b⟩:=X6.1 h;unfold Zw at b;rw [Te] at b
 cases hx:l[j]? with
 | none => rw [hx] at b; cases b
 | some r =>
  rw [hx] at b;have a:(if i=j then setCells r o v else r)=c:=by simpa using b
  refine ⟨r,Xo hx,?_⟩;split at a
  ·exact .inr a.symm
  ·exact .inl a.symm
def Zjk {n m:Nat} {x:LL} (f:n≤m) (h:V0 n x) {i:Nat} {g:LL} (o:Zgk m g):V0 m (Zw x i 3 [AV.slice Xb 6 g]):=by
 refine ⟨by rw [Wq];exact XN h.1 f,fun c p=>?_⟩;obtain ⟨r,q,j⟩:=ZnM p;obtain ⟨a,b,d,k,e,l⟩:=h.2 r q;subst e;rcases j with rfl | rfl
 ·exact ⟨a,b,d,k,rfl,Zgw l f⟩
 ·exact ⟨a,b,d,g,rfl,o⟩
def ZAA (x:Int):Tr (ZwI x):=by
 rw [ZsP];exact Za (fun _=>Zg (by decide) (Za (fun _=>Zc trivial) fun _=>Zc trivial)) fun _=>Zc trivial
def t70 (x:Int):Ret (fun r=>x=32∨x=39→r=10∨r=9) (Zsk x):=by
 rw [ZsE];exact Za (fun _=>Zc fun _=>.inl rfl) fun a=>Za (fun _=>Zc fun _=>.inr rfl) fun b=>Zc fun h=>by simp only [CQ] at a b;omega
def t77 (x:Int):Ret (fun r=>(r=2∨r=3∨r=0)∧(0 < r→x=32∨x=39)) (Zuq x):=by
 rw [ZsT];exact Za (fun h=>Zc ⟨by omega,fun _=>.inl (by simpa only [CQ] using h)⟩) fun a=>Za (fun h=>Zc ⟨by omega,fun _=>.inr (by simpa only [CQ] using h)⟩) fun b=>Zc ⟨by omega,fun h=>by omega⟩
def t78 (x y:Int):Ret (fun b=>b=Xc→x=32∨x=39) (Zxc x y):=by
 rw [Zrt]
 exact Za (fun h=>Za (fun _=>Zg (K9 _) (Zc fun _=>.inl (by simpa only [CQ] using h))) fun _=>Zc fun h=>by cases h) fun a=>
  Za (fun h=>Za (fun _=>Zg (K9 _) (Zc fun _=>.inr (by simpa only [CQ] using h))) fun _=>Zc fun h=>by cases h) fun c=>Zc fun h=>by cases h
def t79 (x y z:Int):Tr (ZyL x y z):=by
 rw [Zrd];refine Zh (t78 x z) fun b d=>Za (fun _=>Zc trivial) fun e=>Za (fun _=>Zc trivial) fun f=>Zh (t77 x) fun r q=>Za (fun _=>Zc trivial) fun g=>Zg (by decide) ?_;have h:x=32∨x=39:=d (by simpa using e);simp only [CQ] at f g;obtain ⟨n,j⟩:∃ n:Nat,y=n:=⟨y.toNat,by omega⟩;subst j;refine Zo (F:=fun k (s:Int) w=>ZiB k x (n:Int) s w) n (fun _ _=>True) (by omega) ?_ (P1 .quo .i64 z 4096) trivial;intro k i s l _ a;refine Zi (ZmK ..) ?_;refine Za (fun c=>?_) fun m=>?_
 ·simp only [CQ] at c;refine Zh (t70 x) fun o _=>Zg (K9 _) ?_;rw [Jd l (by omega)];exact a (by omega) _ trivial
 ·refine Zh (t70 x) fun o p=>Zg (K9 _) (Zg ?_ (Zc trivial));rcases p h with rfl | rfl<;>decide
def t96 (a b d:Int) {n:Nat} {e:LL} (h:Zgk n e) (p:n≤900):Tr (Zyo a b d e):=by
 have g:e.length < 1000:=by have:=h.1;omega
 rw [Zq3];refine Za (fun _=>Zc trivial) fun q=>Zh (t77 b) fun t _=>Za (fun _=>Zc trivial) fun _=>Zh (ZAA a) fun u _=>Za (fun _=>Zc trivial) fun _=>Za (fun _=>Zc trivial) fun _=>?_;refine Zo (F:=fun k (s:Int) w=>ZgT k a b d e s w) e.length (fun _ _=>True) g ?_ (-1) trivial;intro k i s j _ c;refine Zi (Zmv ..) ?_;refine Za (fun f=>?_) fun _=>Zc trivial;simp only [CQ] at f;refine WA h (by omega) f fun r=>Za (fun _=>Zc trivial) fun _=>Zh (t70 b) fun l _=>Zg (K9 _) (Za (fun _=>Zc trivial) fun _=>?_);refine Zh ⟨_,Zxs ..,trivial⟩ fun m (_:True)=>Za (fun _=>Zc trivial) fun _=>Zh (ZAA _) fun o _=>Za (fun _=>Zc trivial) fun _=>Za (fun _=>Zc trivial) fun _=>Za (fun _=>Zc trivial) fun _=>?_;rw [Jd j g];exact Za (fun _=>Za (fun _=>Zc trivial) fun _=>c (by omega) _ trivial) fun _=>c (by omega) _ trivial
def t68 {n:Nat} {x:LL} (h:V0 n x) (m:n≤900):Tr (Zvm x):=by
 have g:x.length < 1000:=by have:=h.1;omega
 rw [ZqK];refine Zo (F:=fun k (_:Unit) w=>Zdw k x w) x.length (fun _ _=>True) g ?_ () trivial;intro k i s o _ e;refine Zi (ZkV ..) ?_;refine Za (fun c=>?_) fun _=>Zc trivial;simp only [CQ] at c;refine K8 h (by omega) c fun a b d p j _=>Zh (t96 a b d j m) fun r _=>Za (fun _=>Zc trivial) fun _=>?_;have l:Tr (Zdw k x (P1 .add .i64 (i:Int) 1)):=by rw [Jd o g];exact e (by omega) () trivial
 refine Za (fun f=>?_) fun _=>l;simp only [CQ] at f;refine K8 h (by omega) c fun a b d p j _=>?_;have q:P1 .sub .i64 (i:Int) 1=(i:Int)-1:=Zdl (by omega) (by omega);rw [q];exact K8 h (by omega) (by omega) fun _ _ _ _ _ _=>Za (fun _=>Zc trivial) fun _=>l
def t71 {n:Nat} {x:LL} (h:V0 n x) (j:n≤900) (z:Int):Ret (fun r=>r < 0∨0≤r∧r < (x.length:Int)) (Zrs x z):=by
 have f:x.length < 1000:=by have:=h.1;omega
 rw [Zr7];refine Zo (F:=fun k (_:Unit) w=>Zjj k x z w) x.length (fun _ _=>True) f ?_ () trivial;intro k i s g _ e;refine Zi (Zmt ..) ?_;refine Za (fun c=>?_) fun _=>Zc (.inl (by decide));simp only [CQ] at c;refine K8 h (by omega) c fun a b d l m _=>Za (fun _=>Zc (.inr ⟨by omega,c⟩)) fun _=>?_;rw [Jd g f];exact e (by omega) () trivial
def t72 (a b d:Int) {n:Nat} {x:LL} (h:Zgk n x) (j:n≤900) (z:Int):Ret (fun r=>r < 0∨0≤r∧r < (x.length:Int)) (Zq7 a b d x z):=by
 have f:x.length < 1000:=by have:=h.1;omega
 rw [Zss];refine Zo (F:=fun k (_:Unit) w=>ZiO k z a b d x w) x.length (fun _ _=>True) f ?_ () trivial;intro k i s g _ e;refine Zi (ZkP ..) ?_;refine Za (fun c=>?_) fun _=>Zc (.inl (by decide));simp only [CQ] at c;refine WA h (by omega) c fun r=>Za (fun _=>Zc (.inr ⟨by omega,c⟩)) fun _=>?_;rw [Jd g f];exact e (by omega) () trivial
def t69 {n:Nat} {x:LL} (h:V0 n x) (b:n≤900) (c:Cap):Tr (Zxo x c.g c.t c.h c.j c.i c.f c.m):=by
 rw [Zr4];refine Zh ⟨_,ZvR ..,trivial⟩ fun d (_:True)=>Za (fun _=>Zc trivial) fun _=>Za (fun _=>Zc trivial) fun _=>Zh (t71 h b _) fun e f=>Za (fun _=>Zc trivial) fun a=>?_;simp only [CQ] at a;refine K8 h (by omega) (by omega) fun _ _ _ _ _ _=>Za (fun _=>K8 h (by omega) (by omega) fun _ _ _ _ _ _=>Zc trivial) fun _=>Zc trivial
def t75 (a b d e f g:Int) (q:Bool) (c b' h e' f' i:Int) (j:Bool):Tr (Zzb a b d e f g q c b' h e' f' i j):=by
 rw [Zsv];exact Za (fun _=>Za (fun _=>Zc trivial) fun _=>Zc trivial) fun _=>Za (fun _=>Za (fun _=>Zc trivial) fun _=>Zc trivial) fun _=>Zc trivial
def JR {γ:Type} {x:LL} {z a b d:Int} {c:LL} (e:0≤z) (f:x[z.toNat]? = Xa [I a,I b,I d,AV.slice Xb 6 c]) (k:(Int×Int×Int×LL)→Option γ):Zn x z [.int .i64,.int .i64,.int .i64,.slice 6] k=k (a,b,d,c):=
 JS (sh:=[.int .i64,.int .i64,.int .i64,.slice 6]) (cs:=[I a,I b,I d,AV.slice Xb 6 c]) (r:=(a,b,d,c)) k e f rfl
def Ze3 {n:Nat} {x:LL} (h:V0 n x) {z:Int} (i:0≤z) (j:z < (x.length:Int)):∃ (a b d:Int) (c:LL),x[z.toNat]? = Xa [I a,I b,I d,AV.slice Xb 6 c]∧Zgk n c:=by
 have e:z.toNat < x.length:=by omega
 obtain ⟨a,b,d,c,f,g⟩:=h.2 _ (XC e);exact ⟨a,b,d,c,by rw [Xm e,f],g⟩
def t73 {n:Nat} {x:LL} (h:V0 n x) (q:n≤900):Zto x=Xa x:=by
 have l:x.length < 1000:=by have:=h.1;omega
 have g:Ret (fun r=>r=x) (Zto x):=by
  rw [ZrT];refine Zo (F:=fun k (s:LL) w=>Zjs k x s w) x.length (fun i s=>s=x.take i) l ?_ E0 rfl;rintro k i s o rfl c;refine Zi (Zmr ..) ?_;refine Za (fun f=>?_) fun j=>Zc ?_
  ·simp only [CQ] at f;refine K8 h (by omega) f fun a b d t p m=>Zg (Zj (by have:=p.1;simp;omega) (by decide)) (Zg (Zj (by simp;omega) (by decide)) ?_);rw [Jd o l];refine c (by omega) _ ?_;rw [Ua] at m;rw [U8,m];rfl
  ·simp only [CQ] at j;rw [Uc (by omega)]
 obtain ⟨r,e,rfl⟩:=g;exact e
def Zlr {x:LL} {i j:Nat} {c:List AV} (h:c∈x.take i++x.drop j):c∈x:=by
 rcases Xq.1 h with h | h
 ·exact XL h
 ·exact XR h
def t42 {n:Nat} {x:LL} (h:V0 n x) (j:n≤900) (c:Cap) (z:Int):Ret (fun r=>V0 n r.1) (g70 x c.g c.t c.h c.j c.i c.f c.m z):=by
 have L:x.length≤900:=by have:=h.1;omega
 rw [ZvL];refine Zh (t68 h j) fun M _=>Za (fun _=>Zc (Y4 n)) fun _=>Zh (t69 h j c) fun w _=>Za (fun _=>Zc (Y4 n)) fun _=>Za (fun _=>Zc (Y4 n)) fun _=>Zh (t70 _) fun A _=>Zg (K9 _) (Za (fun _=>Zc (Y4 n)) fun _=>?_);refine Zh (t71 h j _) fun e C=>Za (fun _=>Zc (Y4 n)) fun p=>?_;simp only [CQ] at p;have f:0≤e:=by omega
 have q:e < (x.length:Int):=by omega
 obtain ⟨a,b,d,g,k,l⟩:=Ze3 h f q;have D:g.length≤900:=by have:=l.1;omega
 obtain ⟨v,t,N⟩:=t72 a b d l j z;refine Zi (JR f k _) (Zb t (Za (fun _=>Zc (Y4 n)) fun m=>?_));simp only [CQ] at m;have u:0≤v:=by omega
 have E:v < (g.length:Int):=by omega
 have ev:P1 .add .i64 v 1=v+1:=JP (by omega) (by omega);have G:P1 .add .i64 e 1=e+1:=JP (by omega) (by omega);refine Zi (JR f k _) (Zb t ?_);rw [ev,G];refine Zi (JR f k _) (WA l u E fun H=>Zb (t73 h j) ?_);refine Zi (JR f k _) (Zg u (Zg (by show v≤(g.length:Int);omega) (Zg (Zj (by simp;omega) (by decide)) ?_)));refine Zi (JR f k _) (Zg (by omega) (Zg (by show v+1≤(g.length:Int);omega) (Zg (Zj (by simp;omega) (by decide)) ?_)));refine Zg f (Zg q (Zg f (Zg q ?_)));have i:V0 n (Zw x e.toNat 3 [AV.slice Xb 6 (Xy v.toNat g++Xz (v+1).toNat g)]):=Zjk (Xt _) h (Zlg (fun c s=>.inl (Zlr s)) l (by have:=l.1;simp;omega));have o:=Wq x e.toNat 3 [AV.slice Xb 6 (Xy v.toNat g++Xz (v+1).toNat g)];revert i o;generalize Zw x e.toNat 3 [AV.slice Xb 6 (Xy v.toNat g++Xz (v+1).toNat g)]=y;intro i o;refine K8 i f (by omega) fun _ _ _ J _ _=>Za (fun _=>?_) fun _=>Zc i;refine Zg f (Zg (by omega) (Zg (Zj (by simp;omega) (by decide)) (Zg (by omega) (Zg (by omega) (Zg (Zj (by simp;omega) (by decide)) (Zc ?_))))));exact ZlV (Xt _) (fun c s=>.inl (Zlr s)) i (by have:=i.1;simp;omega)
def Zk6 {x:LL} {i:Nat} {c r:List AV} (h:c∈(x.take i++(E0++[r]))++x.drop i):c∈x∨c=r:=by
 simp only [Xq,X9,XF] at h;rcases h with (h | h) | h
 ·exact .inl (XL h)
 ·exact .inr h
 ·exact .inl (XR h)
def ZAO {n:Nat} {x:LL} (h:V0 n x) (A:n≤900) (a b d e f:Int) (q:Bool) (t u g j g4 g6 v:Int):Ret (fun r=>V0 (n+1) r.1) (Zkf ZG v a b d e f q t u g j g4 g6 x 0):=by
 have y:x.length < 1000:=by have:=h.1;omega
 have z:∀ i:Nat,i≤x.length→V0 (n+1) ((Xy i x++(E0++[[I a,I e,I f,AV.slice Xb 6 (E0++[[I t,I u,I g,I j,I g4,I g6]])]]))++Xz i x):=fun i o=>
  ZlV (Nat.le_succ n) (fun c p=>(Zk6 p).imp id fun h=>⟨_,_,_,_,h,by simp,fun c p=>by simp only [X9,XF] at p;exact ⟨_,_,_,_,_,_,p⟩⟩) h (by have:=h.1;simp;omega)
 refine Zo (F:=fun k (_:Unit) w=>Zkf k v a b d e f q t u g j g4 g6 x w) x.length (fun _ _=>True) y ?_ () trivial;intro k i s o _ l;refine Zi (Zox ..) ?_;refine Za (fun m=>?_) fun _=>?_
 ·simp only [CQ] at m;refine K8 h (by omega) m fun _ _ _ _ _ _=>Za (fun _=>?_) fun _=>?_
  ·rw [Jd o y];exact l (by omega) () trivial
  ·exact Zg (by omega) (Zg (by omega) (Zg (Zj (by simp;omega) (by decide)) (Zg (Zj (by simp;omega) (by decide)) (Zg (by omega) (Zg (by omega) (Zg (Zj (by simp;omega) (by decide)) (Zc (by rw [Ua];exact z i o))))))))
 ·exact Zg (by omega) (Zg (by omega) (Zg (Zj (by simp;omega) (by decide)) (Zg (Zj (by simp;omega) (by decide)) (Zg (by omega) (Zg (by omega) (Zg (Zj (by simp;omega) (by decide)) (Zc (by rw [Ua];exact z i o))))))))
def ZBV {n:Nat} {x a:LL} (h:V0 n x) (g:Zgk n a) (y:n≤900) (z o p b d g4 g6 t:Int) (j:0≤t) (l:t < (x.length:Int)):Ret (fun r=>V0 (n+1) r.1) (ZkA ZG z o p b d g4 g6 x t a 0):=by
 have q:a.length < 1000:=by have:=g.1;omega
 have u:∀ i:Nat,i≤a.length→V0 (n+1) (Zw x t.toNat 3 [AV.slice Xb 6 ((Xy i a++(E0++[[I o,I p,I b,I d,I g4,I g6]]))++Xz i a)]):=fun i m=>
  Zjk (Nat.le_succ n) h (Zlg (fun c v=>(Zk6 v).imp id fun h=>⟨_,_,_,_,_,_,h⟩) g (by have:=g.1;simp;omega))
 refine Zo (F:=fun k (_:Unit) w=>ZkA k z o p b d g4 g6 x t a w) a.length (fun _ _=>True) q ?_ () trivial;intro k i s m _ e;refine Zi (Zn5 ..) ?_;refine Za (fun f=>?_) fun _=>?_
 ·simp only [CQ] at f;refine WA g (by omega) f fun _=>Za (fun _=>?_) fun _=>?_
  ·rw [Jd m q];exact e (by omega) () trivial
  ·exact Zg (by omega) (Zg (by omega) (Zg (Zj (by simp;omega) (by decide)) (Zg (Zj (by simp;omega) (by decide)) (Zg (by omega) (Zg (by omega) (Zg (Zj (by simp;omega) (by decide)) (Zg j (Zg l (Zg j (Zg l (Zc (by rw [Ua];exact u i m))))))))))))
 ·exact Zg (by omega) (Zg (by omega) (Zg (Zj (by simp;omega) (by decide)) (Zg (Zj (by simp;omega) (by decide)) (Zg (by omega) (Zg (by omega) (Zg (Zj (by simp;omega) (by decide)) (Zg j (Zg l (Zg j (Zg l (Zc (by rw [Ua];exact u i m))))))))))))
def t43 {n:Nat} {x:LL} (h:V0 n x) (g:n≤900) (c:Cap) (z:Int) (e:Yt) (q:e.q.length < 2^63) (m:Int) :
  Ret (fun r=>V0 (n+1) r.1) (g71 x c.g c.t c.h c.j c.i c.f c.m z e.id.c e.id.op e.id.k (Zd e.q) e.d.g e.d.t e.d.h e.d.j e.d.i e.d.f e.d.m m):=by
 have y:x.length≤900:=by have:=h.1;omega
 have f:=Y4 (n+1);rw [Zv6];refine Zh (t68 h g) fun A _=>Za (fun _=>Zc f) fun _=>Zb (ZzZ e q) (Za (fun _=>Zc f) fun _=>Za (fun _=>Zc f) fun _=>Za (fun _=>Zc f) fun _=>Zh (t69 h g c) fun s _=>Za (fun _=>Zc f) fun _=>?_);refine Zh (t75 ..) fun t _=>Za (fun _=>Zc f) fun _=>Za (fun _=>Zc f) fun _=>Zh (t70 _) fun u _=>Zg (K9 _) (Za (fun _=>Zc f) fun _=>?_);refine Za (fun _=>?_) fun _=>?_
 all_goals
  refine Zb (t73 h g) (Zh (t71 h g _) fun j v=>Za (fun _=>ZAO h g ..) fun l=>?_);simp only [CQ] at l;have i:0≤j:=by omega
  have k:j < (x.length:Int):=by omega
  obtain ⟨a,b,d,C,o,p⟩:=Ze3 h i k;refine Zg i (Zg k (Zi (JR i o _) (Zh (t72 a b d p g z) fun w _=>Za (fun _=>Zc f) fun _=>Zg i (Zg k (Zi (JR i o _) ?_)))));exact ZBV h p g _ _ _ _ _ _ _ _ i k
def l72 {n:Nat} {x:LL} (h:V0 n x) (s:n≤900) (z v w y A C D:Int) (E:Bool) (G H J L:Int) (M N:LL) (O Q:Int):∀ (j c:Nat) (p q b:Int) (f:List Id) (g:LL),j < c→f.length+j≤10→g.length+j≤10→
  Tr (ZoL c x z v w y A C D E G H J L M N O Q p q (Zd f) g b ((j:Int)-1)):=by
 intro j
 induction j with
 | zero =>
  intro c p q b f g R _ _;obtain ⟨k,rfl⟩:∃ k,c=k+1:=⟨c-1,by omega⟩;refine Zi (ZiW ..) (Za (fun t=>?_) fun _=>Zc trivial);simp only [CQ] at t;omega
 | succ j ih =>
  intro c p q b f g R hi ht;obtain ⟨k,rfl⟩:∃ k,c=k+1:=⟨c-1,by omega⟩;have S:(((j+1:Nat):Int)-1)=(j:Int):=by omega
  rw [S];refine Zi (ZiW ..) (Za (fun t=>?_) fun _=>Zc trivial);refine Zh (t71 h s _) fun i T=>Za (fun _=>Zc trivial) fun r=>?_;simp only [CQ] at r;have l:0≤i:=by omega
  have U:i < (x.length:Int):=by omega
  obtain ⟨a,b',d,ms,o,u⟩:=Ze3 h l U;refine Zi (JR l o _) (Za (fun _=>Zc trivial) fun _=>Zi (JR l o _) (Za (fun _=>Zc trivial) fun _=>Zi (JR l o _) ?_));refine Zh (t79 ..) fun W _=>Zh (t72 a b' d u s _) fun X Y=>Za (fun _=>Zc trivial) fun m=>?_;simp only [CQ] at m;refine Zi (JR l o _) (WA u (by omega) (by omega) fun e=>?_);refine Zb (s62 f (by omega)) (Zg (Zj (by rw [Ja];simp;omega) (by decide)) (Zg (Zj (by simp;omega) (by decide)) (Zg (Zj (by simp;omega) (by decide)) ?_)));have Z:P1 .sub .i64 (j:Int) 1=(j:Int)-1:=Zdl (by omega) (by omega);rw [Z];have e3:Zd f++(E0++[[I e.2.2.2.1,I (d4 e).1,I e.2.2.2.2.2]])=Zd (f++[⟨e.2.2.2.1,(d4 e).1,e.2.2.2.2.2⟩]):=by simp [Zd,idc]
  have:=ih k e.2.1 e.2.2.1 e.2.1 (f++[⟨e.2.2.2.1,(d4 e).1,e.2.2.2.2.2⟩]) (g++(E0++[[I b]])) (by omega) (by simp;omega) (by simp;omega);rw [← e3] at this;exact this
def t44 {n:Nat} {x:LL} (h:V0 n x) (d:n≤900) (c:Cap) (z:Int):Tr (g72 x c.g c.t c.h c.j c.i c.f c.m z):=by
 rw [ZuI];refine Zh (t68 h d) fun l _=>Za (fun _=>Zc trivial) fun _=>Zh ⟨_,ZvR ..,trivial⟩ fun e (_:True)=>Za (fun _=>Zc trivial) fun _=>Za (fun _=>Zc trivial) fun _=>Zh (t77 _) fun a f=>Za (fun _=>Zc trivial) fun b=>?_;refine Zh (t78 ..) fun g _=>Za (fun _=>Zc trivial) fun _=>Zg (by decide) ?_;simp only [CQ,Decidable.not_not] at b;have i:P1 .sub .i64 a 1=a-1:=Zdl (by omega) (by omega);rw [i] at b;obtain ⟨j,m⟩:∃ j:Nat,a=j:=⟨a.toNat,by omega⟩;have k:c.f=(j:Int)-1:=by omega
 rw [k];exact l72 h d _ _ _ _ _ _ _ _ _ _ _ _ _ _ _ _ j ZG _ _ _ [] [] (by have:ZG=1208925819614629174706176:=rfl;omega) (by simp;omega) (by simp;omega)
def ZAX {γ:Type} {P:LL→Prop} (f:List V→Option LL) {n:Nat} {x:LL} (h:V0 n x) (N:n≤900) (l:List Id) (y:l.length < 2^63) (t:LL) (s:LL) (O:s.length≤1000) {i:Nat} {a b d:Int} {p:LL} (J:x[i]? = Xa [I a,I b,I d,AV.slice Xb 6 p]) (v:Zgk n p)
  (z b' A:Int) (E:∀ C,(C=s∨∃ u,Zgk n u∧C=s++(E0++[[I z,I b',I A,AV.slice Xb 6 u]]))→Ret P (f [.l x,.l (Zd l),.l t,.l C,.i (P1 .add .i64 (i:Int) 1)])) :
  Ret P (Zd3 f ZG x (Zd l) t s (i:Int) z b' A E0 0):=by
 have D:p.length < 1000:=by have:=v.1;omega
 have j:∀ (k:(Int×Int×Int×LL)→Option LL),Zn x (i:Int) [.int .i64,.int .i64,.int .i64,.slice 6] k=k (a,b,d,p):=fun k=>JR (by omega) (by rw [Ua];exact J) k;refine Zo (F:=fun k (e:LL) w=>Zd3 f k x (Zd l) t s (i:Int) z b' A e w) p.length (fun q e=>e.length≤q∧Zgk n e) D ?_ E0 ⟨Xt _,Zpn n⟩;rintro k q e G ⟨Q,m⟩ g;refine Zi (Zlm ..) (Zi (j _) (Za (fun o=>?_) fun _=>?_))
 ·simp only [CQ] at o;have H:q < p.length:=by omega
  refine Zi (j _) (WA v (by omega) o fun L=>Zb (ZtB l y _ _ _) (Za (fun _=>?_) fun _=>?_))
  ·refine Zg (Zj (by simp;omega) (by decide)) (Zi (j _) (WA v (by omega) o fun M=>Zg (Zj (by simp;omega) (by decide)) ?_));rw [Jd G D];refine g H _ ⟨by simp;omega,?_,fun c r=>?_⟩
   ·have:=v.1;simp;omega
   ·simp only [Xq,X9,XF] at r;rcases r with r | r
    ·exact m.2 c r
    ·exact ⟨_,_,_,_,_,_,r⟩
  ·rw [Jd G D];exact g H _ ⟨by omega,m⟩
 ·refine Za (fun _=>Zg (Zj (by simp;omega) (by decide)) (E _ (.inr ⟨e,m,rfl⟩))) fun _=>E _ (.inl rfl)
def t85 {n:Nat} {x:LL} (h:V0 n x) (y:n≤900) (l:List Id) (o:l.length < 2^63) (t:List Int) (z:t.length < 2^63):Ret (fun r=>V0 n r) (Zx4 x (Zd l) (Ze t)):=by
 have p:x.length < 1000:=by have:=h.1;omega
 rw [Zsa];refine Zo (F:=fun k (s:LL) w=>Zja k x (Zd l) (Ze t) s w) x.length (fun i s=>s.length≤i∧V0 n s) p ?_ E0 ⟨Xt _,Y4 n⟩;rintro k i s u ⟨D,e⟩ f;refine Zi (ZnK ..) (Za (fun j=>?_) fun _=>Zc e);simp only [CQ] at j;have v:i < x.length:=by omega
 obtain ⟨a,b,d,E,m,A⟩:=Ze3 h (show (0:Int)≤(i:Int) by omega) j;refine Zi (JR (by omega) m _) (Zb (s64 t z a) (Za (fun _=>?_) fun _=>Zi (JR (by omega) m _) ?_))
 ·rw [Jd u p];exact f v _ ⟨by omega,e⟩
 ·rw [Ua] at m;refine ZAX (γ:=Unit) _ h y l o _ s (by omega) m A a b d fun C q=>?_;rw [Jd u p];refine f v C ?_;rcases q with rfl | ⟨ms',hm',rfl⟩
  ·exact ⟨by omega,e⟩
  ·refine ⟨by simp;omega,?_,fun c g=>?_⟩
   ·have:=h.1;simp;omega
   ·simp only [Xq,X9,XF] at g;rcases g with g | g
    ·exact e.2 c g
    ·exact ⟨_,_,_,_,g,hm'⟩
structure Mc where
 ws:List Int
 st:Int
 p:Int
 rs:List Reg
 os:LL
 l:List Zk
 tabs:LL
 mem:LL
 been:LL
 cr:List (Int×Int)
def crc (x:Int×Int):List AV:=[I x.1,I x.2]
@[reducible] def mT (m:Mc):LL×Int×Int×LL×LL×LL×LL×LL×LL×LL:=(Ze m.ws,m.st,m.p,m.rs.map JQ,m.os,m.l.map Zf,m.tabs,m.mem,m.been,m.cr.map crc)
def atE (l:List Zk) (c s:Int):Option Zk:=l.find? (plE c s)
def atN:Option Zk→Yt
 | some e => e.b
 | none => VH
def Zat {b:Type} (q:b→Bool):∀ l:List b,l[JL q l]? = l.find? q
 | [] => rfl
 | a :: r => by
  unfold JL;rw [List.find?_cons]
  cases q a with
  | true => rfl
  | false => simpa using Zat q r
structure EM (w:Nat) (p:Int) (rs:List Reg) (j:Nat) (e:Zk):Prop where
 c0:0≤e.c
 c1:e.c < (w:Int)
 s0:0≤e.r
 s1:e.r < p
 ok:Jw e.b=Xc
 op:e.b.id.op≤(j:Int)
 pa:∀ i∈e.b.q,i.op≤(j:Int)
 rg:0≤JY rs e.b.d.t e.b.d.h
structure LOk (w:Nat) (p:Int) (rs:List Reg) (j:Nat) (l:List Zk):Prop where
 ent:∀ e∈l,EM w p rs j e
 pl:l.Pairwise fun a b=>¬ (a.c=b.c∧a.r=b.r)
structure WfM (m:Mc) (j:Nat):Prop where
 w1:1≤m.ws.length
 w4:m.ws.length≤4
 ww:∀ w∈m.ws,w=32∨w=39
 p0:1≤m.p
 p1:m.p≤12
 r1:1≤m.rs.length
 r3:m.rs.length≤3
 mem:m.mem=Xv m.ws.length [B Xc]
 tl:m.tabs.length=m.ws.length
 tb:∀ c∈m.tabs,∃ t,c = [AV.slice Xb 4 t]∧V0 j t
 lok:LOk m.ws.length m.p m.rs j m.l
 len:m.l.length≤8*j
 crl:m.cr.length≤j
 cro:∀ c∈m.cr,c.2≤(j:Int)
def EM.mono {w:Nat} {p:Int} {a:List Reg} {j o:Nat} {e:Zk} (h:EM w p a j e) (b:j≤o):EM w p a o e:=⟨h.c0,h.c1,h.s0,h.s1,h.ok,by have:=h.op;omega,fun i c=>by have:=h.pa i c;omega,h.rg⟩
def LOk.mono {w:Nat} {p:Int} {b:List Reg} {j o:Nat} {l:List Zk} (h:LOk w p b j l) (a:j≤o):LOk w p b o l:=⟨fun e c=>(h.ent e c).mono a,h.pl⟩
def WfM.mono {m:Mc} {j o:Nat} (h:WfM m j) (a:j≤o):WfM m o:=
 ⟨h.w1,h.w4,h.ww,h.p0,h.p1,h.r1,h.r3,h.mem,h.tl,fun c b=>by obtain ⟨t,e,d⟩:=h.tb c b;exact ⟨t,e,YO d a⟩,h.lok.mono a,by have:=h.len;omega,by have:=h.crl;omega,fun c b=>by have:=h.cro c b;omega⟩
def Nx (m m':Mc) (j:Nat):Prop:=m'.ws=m.ws∧m'.p=m.p∧m'.rs=m.rs∧WfM m' j
def Nx.refl {m:Mc} {j o:Nat} (h:WfM m j) (a:j≤o):Nx m m o:=⟨rfl,rfl,rfl,h.mono a⟩
def LOk.few {w:Nat} {p:Int} {a:List Reg} {j:Nat} {l:List Zk} (h:LOk w p a j l) (b:l.length≤1000):Kj l:=⟨b,fun e c=>by have:=(Z4 (h.ent e c).ok).2.2.1;omega⟩
def ZoS {w:Nat} {p:Int} {f:List Reg} {j:Nat} {l m:List Zk} {x:Zk} (h:LOk w p f j l) (g:EM w p f j x) (k:Zp9 l x m):LOk w p f j m∧m.length=l.length+1:=by
 obtain ⟨i,o,_,_,_,c,rfl⟩:=k;refine ⟨⟨fun e b=>?_,?_⟩,by simp;omega⟩
 ·simp only [Xq,XF] at b;rcases b with (b | rfl) | b
  ·exact h.ent e (XL b)
  ·exact g
  ·exact h.ent e (XR b)
 ·have n:(l.take i++[x]++l.drop i).Perm (x::l):=by
   have:=List.perm_middle (a:=x) (l₁:=l.take i) (l₂:=l.drop i);rw [XB,Tt];rw [UH] at this;exact this
  refine (n.pairwise_iff (fun h d=>h ⟨d.1.symm,d.2.symm⟩)).2 (Ta.2 ⟨fun e b d=>?_,h.pl⟩);rw [UC] at c;exact c e b (by simp [plE,d.1,d.2])
def Zme (m:Mc) {n:Nat} (a:m.mem=Xv n [B Xc]):(Xg m.mem:Int)=(n:Int):=by rw [a];simp
def s33 (m:Mc) {n:Nat} (d:m.mem=Xv n [B Xc]) (k:Int):g33 (Ze m.ws) m.st m.p (m.rs.map JQ) m.os (m.l.map Zf) m.tabs m.mem m.been (m.cr.map crc) k=Xa (decide (0≤k∧k < (n:Int)),mT m):=by
 have c:=Zme m d;rw [Zt2];refine ZE (fun b=>?_) fun b=>?_
 ·refine ZE (fun a=>?_) fun a=>?_
  ·simp only [CQ] at b a;rw [c] at a;rw [Zu (by omega),Zu (by rw [c];exact a)];refine (JS (cs:=[B Xc]) (r:=Xc) _ (by omega) (by rw [d,T0,P4 (by omega)]) rfl).trans ?_;rw [decide_eq_true (by omega)]
  ·simp only [CQ] at b a;rw [c] at a;rw [decide_eq_false (by omega)]
 ·simp only [CQ] at b;rw [decide_eq_false (by omega)]
def s65 (m:Mc) (z:Int):g65 (Ze m.ws) m.st m.p (m.rs.map JQ) m.os (m.l.map Zf) m.tabs m.mem m.been (m.cr.map crc) z=Xa (decide (0≤z∧z < m.p),mT m):=by
 rw [ZtG];refine ZE (fun a=>?_) fun a=>?_
 ·have e:P0 .lss z m.p=decide (0≤z∧z < m.p):=by rw [Z6];simp only [CQ] at *; omega
  rw [e]
 ·simp only [CQ] at a;rw [decide_eq_false (by omega)]
def s69 (m:Mc) (d:m.l.length < 2^63) (f:∀ e∈m.l,e.b.q.length≤64) (c s:Int):g69 (Ze m.ws) m.st m.p (m.rs.map JQ) m.os (m.l.map Zf) m.tabs m.mem m.been (m.cr.map crc) c s=Xa ((atN (atE m.l c s)).id.c,(atN (atE m.l c s)).id.op,(atN (atE m.l c s)).id.k,Zd (atN (atE m.l c s)).q,(atN (atE m.l c s)).d.g,(atN (atE m.l c s)).d.t,(atN (atE m.l c s)).d.h,(atN (atE m.l c s)).d.j,(atN (atE m.l c s)).d.i,(atN (atE m.l c s)).d.f,(atN (atE m.l c s)).d.m,(atE m.l c s).isSome,mT m):=by
 rw [Zt0,Zzt m.l d,Xj,show atE m.l c s=m.l[JL (plE c s) m.l]? from (Zat _ _).symm];refine ZE (fun h=>?_) fun h=>?_
 ·have g:¬ JL (plE c s) m.l < m.l.length:=fun b=>by rw [Kg b] at h;simp only [CQ] at h;omega
  rw [Ur (by omega)];rfl
 ·have a:JL (plE c s) m.l < m.l.length:=by
   rcases XS (JL (plE c s) m.l) m.l.length with b | b
   ·exact b
   ·rw [Zaf,P3 (by omega)] at h;exact absurd rfl h
  rw [Xm a,Kg a];refine (Zz a _).trans ?_;simp only [Yk,d2,d4,d8,P2,d6,df,dg,dh,di,dj,dk,dl];rw [s30 _ (f _ (XC a)),Xj];rfl
def tkB (l:List Zk) (k d c:Int):Bool:=(XK c.toNat).any fun i=>(atE l k (d+(i:Int))).isSome
def s66 (m:Mc) (u:m.l.length < 2^63) (v:∀ e∈m.l,e.b.q.length≤64) (k d c:Int) (E:0≤d) (w:d < 2^40) (G:c≤900):g66 (Ze m.ws) m.st m.p (m.rs.map JQ) m.os (m.l.map Zf) m.tabs m.mem m.been (m.cr.map crc) k d c=Xa (tkB m.l k d c,mT m):=by
 have b:Ret (fun r=>r=(tkB m.l k d c,mT m)) (g66 (Ze m.ws) m.st m.p (m.rs.map JQ) m.os (m.l.map Zf) m.tabs m.mem m.been (m.cr.map crc) k d c):=by
  rw [Zvh];refine Zo (F:=fun q (_:Unit) z=>Zoz q (Ze m.ws) m.st m.p (m.rs.map JQ) m.os (m.l.map Zf) m.tabs m.mem m.been (m.cr.map crc) k d c z) c.toNat (fun i _=>∀ j:Nat,j < i→(atE m.l k (d+(j:Int))).isSome=Xb) (by omega) ?_ () (fun j h=>absurd h (UA _));intro q i s y t a;refine Zi (Zo6 ..) (Za (fun f=>?_) fun g=>?_)
  ·simp only [CQ] at f;have A:P1 .add .i64 d (i:Int)=d+i:=JP (by omega) (by omega);rw [A];refine Zb (s69 m u v k (d+i)) (Za (fun h=>?_) fun h=>?_)
   ·have n:(atE m.l k (d+(i:Int))).isSome=Xc:=h;refine Zc ?_;rw [show tkB m.l k d c=Xc from Ut.2 ⟨i,Uf.2 (by omega),n⟩]
   ·have n:¬ (atE m.l k (d+(i:Int))).isSome=Xc:=h;rw [Jd y (by omega)];refine a (by omega) () fun j C=>?_;by_cases hji:j < i
    ·exact t j hji
    ·have:j=i:=by omega
     subst this;simpa using n
  ·simp only [CQ] at g;have o:i=c.toNat:=by omega
   subst o;refine Zc ?_;rw [show tkB m.l k d c=Xb from UC.2 fun x D=>by rw [t x (Uf.1 D)];simp]
 obtain ⟨r,e,rfl⟩:=b;exact e
set_option maxHeartbeats 4000000 in
def s68 (m:Mc) {j:Nat} (h:LOk m.ws.length m.p m.rs j m.l) (k d:Int) (C:0≤k∧k < (m.ws.length:Int)) (hd:0≤d) (a:List Yt) (D:d+(a.length:Int)≤m.p) (hp:m.p≤800) (E:∀ n∈a,Jw n=Xc∧n.id.op≤(j:Int)∧(∀ i∈n.q,i.op≤(j:Int))∧0≤JY m.rs n.d.t n.d.h)
  (G:m.l.length+a.length≤900) (N:m.cr.length≤900) (H:∀ c∈m.cr,c.2≤(j:Int)) :
  Ret (fun r=>∃ v o,r=mT { m with l:=v,cr:=o }∧LOk m.ws.length m.p m.rs j v∧v.length≤m.l.length+a.length∧o.length≤m.cr.length+1∧∀ c∈o,c.2≤(j:Int)) (g68 (Ze m.ws) m.st m.p (m.rs.map JQ) m.os (m.l.map Zf) m.tabs m.mem m.been (m.cr.map crc) k d (a.map Wd)):=by
 rw [Zqe];refine Zo (F:=fun q (s:LL) z=>Znl q (Ze m.ws) m.st m.p (m.rs.map JQ) m.os s m.tabs m.mem m.been (m.cr.map crc) k d (a.map Wd) z) a.length (fun i s=>∃ l,s=l.map Zf∧LOk m.ws.length m.p m.rs j l∧l.length≤m.l.length+i) (by omega) ?_ (m.l.map Zf) ⟨m.l,rfl,h,by omega⟩;rintro q i s O ⟨l,rfl,t,Q⟩ g;refine Zi (ZjC ..) (Za (fun w=>?_) fun x=>?_)
 ·simp only [CQ,Xi] at w;have u:i < a.length:=by omega
  refine Zi (V5 u _) ?_;obtain ⟨J,y,R,S⟩:=E _ (XC u);have T:P1 .add .i64 d (i:Int)=d+i:=JP (by omega) (by omega);rw [T,Jd O (by omega)];refine Zh (ZB1 l (t.few (by omega)) ⟨k,d+i,a[i]⟩ (by have:=(Z4 J).2.2.1;show a[i].q.length≤20;omega)) fun r U=>?_;rcases U with rfl | ⟨m',hm',rfl⟩
  ·exact g u _ ⟨[],rfl,⟨fun e W=>(by cases W),List.Pairwise.nil⟩,by simp⟩
  ·have X:0≤d+(i:Int):=by omega
   have Y:d+(i:Int) < m.p:=by omega
   have Z:EM m.ws.length m.p m.rs j ⟨k,d+(i:Int),a[i]⟩:=⟨C.1,C.2,X,Y,J,y,R,S⟩;obtain ⟨a1,a2⟩:=ZoS t Z hm';exact g u _ ⟨m',rfl,a1,by omega⟩
 ·simp only [CQ,Xi] at x;refine Za (fun A=>?_) fun _=>Zc ⟨l,m.cr,rfl,t,by omega,by omega,H⟩;simp only [CQ,Xi] at A;have L:0 < a.length:=by omega
  have y:=(E _ (XC L)).2.1;have M:∀ {γ:Type} (f:ShsT Zb5→Option γ),Zn (a.map Wd) 0 Zb5 f=f (ZfF a[0]):=fun f=>V5 L f;refine Zg (Zj (by simp;omega) (by decide)) (Zi (M _) (Zi (M _) (Zg (Zj (by simp;omega) (by decide)) (Zc ⟨l,m.cr++[(a[0].id.c,a[0].id.op)],?_,t,by omega,by simp,fun c b=>?_⟩))))
  ·simp [mT,crc,ZfF]
  ·rcases Xq.1 b with b | b
   ·exact H c b
   ·rw [XF] at b;rw [b];exact y
def Zom {a:Type} (q:a→Bool) (l:List a):JL q l < l.length↔∃ x∈l,q x=Xc:=by
 constructor
 ·intro h;exact ⟨_,XC h,KX q l h⟩
 ·rintro ⟨x,c,b⟩;rcases XS (JL q l) l.length with h | h
  ·exact h
  ·obtain ⟨i,d,rfl⟩:=UU c;rw [KL q l i d (by omega)] at b
   cases b
def ZiQ (a:List Reg) (b n:Int):0≤JY a b n↔∃ r∈a,inB r.t r.h b n=Xc:=by
 rw [show (∃ r∈a,inB r.t r.h b n=Xc)↔JL (ZjO b n) a < a.length from (Zom (ZjO b n) a).symm];unfold JY Zaf;split<;>omega
def ZlD {a b c d e f:Int} (g:inB a b c d=Xc) (h:inB c d e f=Xc):inB a b e f=Xc:=by
 simp only [inB,Xk,P5] at *;exact ⟨⟨⟨g.1.1.1,h.1.1.2⟩,by omega⟩,by omega⟩
def Zr5 {a:List Reg} {b n b' c:Int} (h:0≤JY a b n) (d:inB b n b' c=Xc):0≤JY a b' c:=by
 rw [ZiQ] at *;obtain ⟨r,e,h⟩:=h;exact ⟨r,e,ZlD h d⟩
def Zpe {a b:Nat} (h:a≤b):(2:Int)^a ∣ 2^b:=⟨2^(b-a),by rw [← Int.pow_add];congr 1;omega⟩
def ZjR {a b:Nat} (h:(2:Int)^a≤2^b):a≤b:=by
 rcases XS b a with hlt | hge
 ·have c:=Zmm (m:=b+1) (n:=a) hlt;have d:(2:Int)^(b+1)=2^b*2:=Int.pow_succ ..;have e:=Ky b;omega
 ·exact hge
def Zj4 {c:Cap} (h:J0 c=Xc):0≤c.j∧c.j≤7:=by
 simp only [J0,Xk,P5] at h;exact h.1.1.2
def ZpI {c:Cap} {obj bits a b off cnt:Int} (h:JN c obj bits a b off cnt=0) :
  J0 c=Xc∧c.g=1∧P1 .and .i64 c.j 2≠0∧KP obj bits=Xc∧(obj=3→W2 b a=Xc)∧1≤cnt∧cnt≤8∧0≤off∧(c.m=Xc→obj=1∨obj=2)∧
   off % 2^bits.toNat=0∧off≤2^c.h.toNat-cnt*2^bits.toNat∧(obj=1→bits < c.h):=by
 unfold JN at h;split at h
 ·cases h
 split at h
 ·cases h
 split at h
 ·cases h
 split at h
 ·cases h
 split at h
 ·cases h
 rename_i e d f g i;refine ⟨?_,?_,d,?_,?_,?_,?_,?_,?_,?_,?_,?_⟩ <;> grind
def Zkp {c:Cap} {obj bits a b off cnt:Int} (h:JN c obj bits a b off cnt=0) {i:Nat} (w:(i:Int) < cnt) :
  J0 ⟨obj,c.t+off+i*2^bits.toNat,bits,c.j,if obj=3 then b else 0,if obj=3 then a else 0,c.m⟩=Xc∧inB c.t c.h (c.t+off+i*2^bits.toNat) bits=Xc:=by
 obtain ⟨g,x,f,n,o,y,z,A,p,j,q,r⟩:=ZpI h;obtain ⟨C,D,E,s,G⟩:=W5 (Zfm g);obtain ⟨t,u⟩:=ZiS n;have H:=Ky bits.toNat;have J:0≤(i:Int)*2^bits.toNat:=Int.mul_nonneg (by omega) (by omega);have L:((i:Int)+1)*2^bits.toNat≤cnt*2^bits.toNat:=Tw (by omega) (by omega);have M:((i:Int)+1)*2^bits.toNat=i*2^bits.toNat+2^bits.toNat:=by rw [Int.add_mul,Int.one_mul]
 have N:1*2^bits.toNat≤cnt*2^bits.toNat:=Tw (by omega) (by omega);have k:bits.toNat≤c.h.toNat:=ZjR (by omega);have l:(2:Int)^bits.toNat ∣ c.t:=Int.dvd_trans (Zpe k) (T5 s);have v:(2:Int)^bits.toNat ∣ c.t+off+i*2^bits.toNat:=Int.dvd_add (Int.dvd_add l (T5 j)) (Int.dvd_mul_left _ _)
 have m:JW (c.t+off+i*2^bits.toNat) bits=Xc:=by
  simp only [JW,P5];exact ⟨t,u,by omega,Int.emod_eq_zero_of_dvd v,by omega⟩
 have d:YZ (c.t+off+i*2^bits.toNat) bits=c.t+off+(i+1)*2^bits.toNat:=by
  simp only [YZ,m,if_true];omega
 have e:=Zfm g;refine ⟨?_,?_⟩
 ·simp only [J0,m,n,Bool.and_true,Tx,Xk,P5,XX,XJ];refine ⟨⟨Zj4 g,?_⟩,?_⟩
  ·by_cases f:obj=3
   ·simp only [P4 f];exact o f
   ·simp only [P3 f];decide
  ·cases hdv:c.m
   ·exact .inl (.inl rfl)
   ·rcases p hdv with h | h
    ·exact .inl (.inr h)
    ·exact .inr h
 ·simp only [inB,m,e,Tx,Xk,P5,d];have:YZ c.t c.h=c.t+2^c.h.toNat:=by simp only [YZ,e,if_true]
  omega
def Zhi {c:Cap} {obj bits a b off cnt:Int} (h:JN c obj bits a b off cnt=0):∃ cs:List Cap,Yl c obj bits a b off cnt=cs.map Kh∧cs.length=cnt.toNat∧∀ x∈cs,J0 x=Xc∧inB c.t c.h x.t x.h=Xc:=by
 refine ⟨(XK cnt.toNat).map fun (j:Nat)=>⟨obj,c.t+off+(j:Int)*2^bits.toNat,bits,c.j,if obj=3 then b else 0,if obj=3 then a else 0,c.m⟩,?_,by simp,fun x d=>?_⟩
 ·unfold Yl;rw [P4 h,List.map_map];rfl
 ·obtain ⟨j,e,rfl⟩:=Xs.1 d;exact Zkp h (by have:=Uf.1 e;omega)
def ZjX {s:Yt} {i:Id} {c:Cap} (h:Za3 s i c):ZtT s.id.c s.id.op s.id.k (Zd s.q) s.d.g s.d.t s.d.h s.d.j s.d.i s.d.f s.d.m i.c i.op i.k c.g c.t c.h c.j c.i c.f c.m=Xa (i.c,i.op,i.k,Zd (s.q++[s.id]),c.g,c.t,c.h,c.j,c.i,c.f,c.m,0):=by
 have a:=h.room;rw [Zrq,ZzZ s (by omega),Xj];refine (P3 (by rw [h.e];decide)).trans ?_;rw [Zxs,Xj];refine (P3 (by rw [h.id];decide)).trans ?_;rw [ZvR,Xj];refine (P3 (by rw [h.d];decide)).trans ?_;refine (P3 (by rw [Kn];exact h.ne)).trans ?_;rw [ZtB s.q (by omega),Xj];refine (P3 (by rw [h.fresh];decide)).trans ?_;refine (P3 (by simp only [CQ,Ja];omega)).trans ?_;rw [s62 s.q (by omega),Xj,Zu (Zj (by rw [Ja];simp;omega) (by omega))];simp [Zd,idc]
set_option maxHeartbeats 4000000 in
def Zb3 {m:Mc} {j o:Nat} {s:Yt} (h:Jw s=Xc) (a:s.id.op≤(j:Int)) (b:∀ i∈s.q,i.op≤(j:Int)) (f:0≤JY m.rs s.d.t s.d.h) (n:j < o) (t:o≤200) {k:Int} (u:0≤k∧k < 32) {q:Nat} (v:q < 8) {c:Cap} (p:J0 c=Xc) (g:inB s.d.t s.d.h c.t c.h=Xc) (w:s.q.length≠8) :
  Za3 s ⟨k,(o:Int),(q:Int)⟩ c∧(Jw (Ji s ⟨k,(o:Int),(q:Int)⟩ c)=Xc∧(Ji s ⟨k,(o:Int),(q:Int)⟩ c).id.op≤(o:Int)∧(∀ i∈(Ji s ⟨k,(o:Int),(q:Int)⟩ c).q,i.op≤(o:Int))∧0≤JY m.rs (Ji s ⟨k,(o:Int),(q:Int)⟩ c).d.t (Ji s ⟨k,(o:Int),(q:Int)⟩ c).d.h):=by
 have x:=(Z4 h).2.2.1
 have l:Za3 s ⟨k,(o:Int),(q:Int)⟩ c:=by
  refine ⟨h,?_,p,fun e=>?_,?_,by omega⟩
  ·simp only [Kq,P5];omega
  ·rw [← e] at a;simp only at a;omega
  ·rw [← XT,US];intro r;have:=b _ r;simp only at this;omega
 refine ⟨l,Zpw l,by simp [Ji],fun i d=>?_,Zr5 f g⟩;simp only [Ji,Xq,XF] at d;rcases d with d | rfl
 ·have:=b i d;omega
 ·omega
def TW (j:Nat) (x:LL):Prop:=∀ c∈x,∃ t,c = [AV.slice Xb 4 t]∧V0 j t
def ZgR {j o:Nat} (a:j≤o) {x:LL} (h:TW j x) {i:Nat} {t:LL} (f:V0 o t):TW o (Zw x i 0 [AV.slice Xb 4 t]):=by
 intro c g;obtain ⟨r,k,b⟩:=ZnM g;obtain ⟨l,e,d⟩:=h r k;subst e;rcases b with rfl | rfl
 ·exact ⟨l,rfl,YO d a⟩
 ·exact ⟨t,rfl,f⟩
def ZaH {γ:Type} {P:γ→Prop} {j:Nat} {x:LL} (h:TW j x) {z:Int} (b:0≤z) (f:z < (x.length:Int)) {k:LL→Option γ} (c:∀ t,V0 j t→Ret P (k t)):Ret P (Zn x z [.slice 4] k):=by
 have a:z.toNat < x.length:=by omega
 obtain ⟨t,e,d⟩:=h _ (XC a);exact Zi (JS (sh:=[.slice 4]) (cs:=x[z.toNat]) (r:=t) k b (Xm a) (by rw [e];rfl)) (c t d)
def Nx.tabs {m:Mc} {j o:Nat} (h:WfM m j) (a:j≤o) {t:LL} (b:t.length=m.tabs.length) (c:TW o t):Nx m { m with tabs:=t } o:=
 have g:=h.mono a
 ⟨rfl,rfl,rfl,⟨g.w1,g.w4,g.ww,g.p0,g.p1,g.r1,g.r3,g.mem,by rw [← g.tl];exact b,c,g.lok,g.len,g.crl,g.cro⟩⟩
def LOk.sub {w:Nat} {p:Int} {a:List Reg} {j:Nat} {l b:List Zk} (h:LOk w p a j l) (c:b.Sublist l):LOk w p a j b:=⟨fun e d=>h.ent e (c.subset d),h.pl.sublist c⟩
def s76 (l:List Zk) (h:Kj l) (i:Id):Ret (fun r=>∃ d:List Zk,r.1=d.map Zf∧d.Sublist l) (g76 (l.map Zf) i.c i.op i.k):=by
 have g:=h.len;rw [Zp0,Zs8 l (by omega) i,Xj];refine Za (fun _=>Zc ⟨[],rfl,List.nil_sublist _⟩) fun a=>?_
 have b:JL (idE i) l < l.length:=by
  rcases XS (JL (idE i) l) l.length with h' | h'
  ·exact h'
  ·rw [Zaf,P3 (by omega)] at a;exact absurd rfl a
 rw [Kg b];generalize JL (idE i) l=q at b;have f:P1 .add .i64 (q:Int) 1=((q+1:Nat):Int):=by rw [JP (by omega) (by omega)];omega
 rw [f,Ua,Ua,← Um,← Uq];refine Zg (by omega) (Zg (by rw [Xi];omega) (Zb (s22 _ (Vd h (fun e c=>XL c) (by simp;omega))) (Zg (by omega) (Zg (by rw [Xi];omega) (Zb (s22 _ (Vd h (fun e c=>XR c) (by simp))) (Zg (Zj (by simp;omega) (by decide)) (Zc ⟨l.take q++l.drop (q+1),by simp,?_⟩)))))));have:=(List.Sublist.refl (l.take q)).append (List.drop_sublist_drop_left l (show q≤q+1 by omega))
 rwa [UH] at this
def s77 (l:List Zk) (h:Kj l) (i:Id):Ret (fun r=>∃ a:List Zk,r=a.map Zf∧a.Sublist l) (g77 (l.map Zf) i.c i.op i.k):=by
 have t:=h.len;rw [Zqq];refine VU (F:=fun k (d:LL) z=>Zkb k (l.map Zf) i.c i.op i.k d z) (n:=l.length) (fun q d=>∃ a:List Zk,d=a.map Zf∧a.Sublist (l.take q)) (by omega) ?_ ?_ E0 ⟨[],rfl,List.nil_sublist _⟩
 ·rintro k q s f ⟨a,rfl,b⟩ c;refine Zi (ZeS ..) (Za (fun _=>?_) fun j=>by simp only [CQ,Xi] at j;omega);have u:=h.q l[q] (XC f);have g:=b.length_le;rw [Xu] at g;have o:(l.take q).Sublist (l.take (q+1)):=by rw [U8];exact List.sublist_append_left _ _
  refine Zi (Zz f _) (Zb (ZtB l[q].b.q (by omega) _ _ _) ?_);rw [ZaG f (by omega)];refine Za (fun _=>Zi (Zz f _) (Zg (Zj (by simp;omega) (by decide)) (c _ ⟨a++[l[q]],by simp [Zf,Yk],?_⟩))) fun _=>c _ ⟨a,rfl,b.trans o⟩;rw [U8,Xm f];exact b.append (List.Sublist.refl _)
 ·rintro k s ⟨a,rfl,b⟩;rw [List.take_length] at b;refine Zi (ZeS ..) (Za (fun m=>by simp only [CQ,Xi] at m;omega) fun _=>?_);exact Zb (s22 a (Vd h (fun e p=>b.subset p) b.length_le)) (Zc ⟨a,rfl,b⟩)
def s78 (m:Mc) {j:Nat} (J:j≤800) (y:TW j m.tabs) (L:m.l.length≤900) (A:m.tabs.length≤100) :
  Ret (fun r=>∃ t,r=mT { m with tabs:=t }∧t.length=m.tabs.length∧TW j t) (g78 (Ze m.ws) m.st m.p (m.rs.map JQ) m.os (m.l.map Zf) m.tabs m.mem m.been (m.cr.map crc)):=by
 rw [Zvx];refine Zo (F:=fun q (t:LL) z=>ZsI q (Ze m.ws) m.st m.p (m.rs.map JQ) m.os (m.l.map Zf) t m.mem m.been (m.cr.map crc) z) m.tabs.length (fun _ t=>t.length=m.tabs.length∧TW j t) (by omega) ?_ m.tabs ⟨rfl,y⟩;rintro q i t C ⟨u,h⟩ f;refine Zi (Zof ..) (Za (fun k=>?_) fun _=>Zc ⟨t,rfl,u,h⟩);simp only [CQ] at k;have D:i < m.tabs.length:=by omega
 refine Zo (F:=fun v (s:LL×LL) z=>ZjM (F78.lp [0] 0 r0 q) v (Ze m.ws) m.st m.p (m.rs.map JQ) m.os (m.l.map Zf) t m.mem m.been (m.cr.map crc) (i:Int) s.1 s.2 z) m.l.length (fun a s=>∃ (b:List Id) (d:List Int),s=(Zd b,Ze d)∧b.length≤a∧d.length≤a) (by omega) ?_ (E0,E0) ⟨[],[],rfl,Xt _,Xt _⟩;rintro v a s n ⟨b,d,rfl,M,N⟩ c;refine Zi (Zn3 ..) (Za (fun g=>?_) fun _=>?_)
 ·simp only [CQ,Xi] at g;have e:a < m.l.length:=by omega
  refine Zi (Zz e _) (Za (fun _=>Zi (Zz e _) (Zg (Zj (by rw [Ja];simp;omega) (by decide)) (Zi (Zz e _) ?_))) fun _=>?_)
  ·have w:Zd b++(E0++[[I m.l[a].b.id.c,I m.l[a].b.id.op,I m.l[a].b.id.k]])=Zd (b++[m.l[a].b.id]):=by simp [Zd,idc]
   refine Za (fun _=>Zi (Zz e _) (Zg (Zj (by rw [JH];simp;omega) (by decide)) ?_)) fun _=>?_
   ·rw [Jd n (by omega)];have E:Ze d++(E0++[[I m.l[a].b.d.t]])=Ze (d++[m.l[a].b.d.t]):=by simp [Ze,Zhl]
    exact c e (_,_) ⟨b++[m.l[a].b.id],d++[m.l[a].b.d.t],Prod.ext w E,by simp;omega,by simp;omega⟩
   ·rw [Jd n (by omega)];exact c e (_,_) ⟨b++[m.l[a].b.id],d,Prod.ext w rfl,by simp;omega,by omega⟩
  ·rw [Jd n (by omega)];exact c e (_,_) ⟨b,d,rfl,by omega,by omega⟩
 ·refine Zg (by omega) (Zg (by omega) (ZaH h (by omega) (by omega) fun x G=>Zh (t85 G (by omega) b (by omega) d (by omega)) fun H o=>Zg (by omega) (Zg (by omega) (Zg (by omega) (Zg (by omega) ?_)))));rw [Jd C (by omega),Ua];exact f D _ ⟨by rw [Wq];exact u,ZgR (Xt _) h o⟩
def Zug (a b:Int):P1 .and .i64 a b=(BitVec.ofInt 64 a&&& BitVec.ofInt 64 b).toInt:=by
 show Xl .i64 (((BitVec.ofInt 64 a&&& BitVec.ofInt 64 b).toNat:Nat):Int)=_;generalize BitVec.ofInt 64 a&&& BitVec.ofInt 64 b=x;have:=x.isLt;rw [BitVec.toInt_eq_toNat_cond];simp only [Xl];have f:IntKind.i64.signed=Xc:=rfl;have g:IntKind.i64.bits=64:=rfl;have c:(2:Nat)^64=18446744073709551616:=by decide
 have d:(2:Int)^64=18446744073709551616:=by decide
 have e:(2:Int)^(64-1)=9223372036854775808:=by decide
 simp only [f,g,if_true,Tx,P5,d,e];rw [c] at this ⊢;by_cases hx:2*x.toNat < 18446744073709551616
 ·rw [P4 hx];omega
 ·rw [P3 hx];omega
def ZqZ {a:Int} (b:Int) (d:0≤a) (e:a≤7):0≤P1 .and .i64 a b∧P1 .and .i64 a b≤7:=by
 have h:=Zug a b
 have c:(BitVec.ofInt 64 a&&& BitVec.ofInt 64 b).toNat≤(BitVec.ofInt 64 a).toNat:=by
  rw [BitVec.toNat_and];exact Nat.and_le_left
 have f:(BitVec.ofInt 64 a).toNat≤7:=by
  rw [BitVec.toNat_ofInt];omega
 rw [h,BitVec.toInt_eq_toNat_cond];split<;>omega
def ZkI {c:Cap} (h:J0 c=Xc):0≤c.j∧c.j≤7:=by
 simp only [J0,Xk,P5] at h;exact h.1.1.2
def ZkW {c:Cap} (h:J0 c=Xc) (m:Int):J0 { c with j:=P1 .and .i64 c.j m } = Xc:=by
 obtain ⟨a,b⟩:=ZkI h;have:=ZqZ m a b;simp only [J0,Xk,P5] at h ⊢;exact ⟨⟨⟨h.1.1.1,this⟩,h.1.2⟩,h.2⟩
def WfM.paths {m:Mc} {j:Nat} (h:WfM m j):∀ e∈m.l,e.b.q.length≤64:=fun e a=>by have:=(Z4 (h.lok.ent e a).ok).2.2.1;omega
def Zmd {m:Mc} {j:Nat} (h:WfM m j) (c s:Int):(atN (atE m.l c s)).q.length < 2^63:=by
 cases ha:atE m.l c s with
 | none => exact (by decide : (0 : Nat) < 2 ^ 63)
 | some e => have := h.paths e (UE ha); show e.b.q.length < 2 ^ 63; omega
def Ztm {l:List Id} (h:P0 .eql (Xg (Zd l):Int) 8=Xc):l.length=8:=by
 simp only [CQ,Ja] at h;omega
def Kv {p:Prop} {_:Decidable p} (h:(!(decide p))=Xc):¬ p:=by simpa using h
def Zer {p:Prop} {_:Decidable p} (h:¬ (!(decide p))=Xc):p:=by simpa using h
def ZoH {b n:Int} (h:JW b n=Xc):inB b n b n=Xc:=by simp [inB,h]
def Nx.ins {m:Mc} {j o:Nat} (h:WfM m j) (a:j < o) {l:List Zk} {cr:List (Int×Int)} (b:LOk m.ws.length m.p m.rs o l) (e:l.length≤m.l.length+8) (f:cr.length≤m.cr.length+1) (d:∀ c∈cr,c.2≤(o:Int)):Nx m { m with l:=l,cr:=cr } o:=
 have g:=h.mono (XU a)
 ⟨rfl,rfl,rfl,⟨g.w1,g.w4,g.ww,g.p0,g.p1,g.r1,g.r3,g.mem,g.tl,g.tb,b,by have:=h.len;show l.length≤8*o;omega,by have:=h.crl;show cr.length≤o;omega,d⟩⟩
def Nx.syn {m:Mc} {j o:Nat} (h:WfM m j) (a:j≤o) {l:List Zk} {t:LL} (d:l.Sublist m.l) (b:t.length=m.tabs.length) (f:TW j t):Nx m { m with l:=l,tabs:=t } o:=
 have g:=h.mono a
 ⟨rfl,rfl,rfl,⟨g.w1,g.w4,g.ww,g.p0,g.p1,g.r1,g.r3,g.mem,by rw [← g.tl];exact b,fun c i=>(by obtain ⟨x,e,k⟩:=f c i;exact ⟨x,e,YO k a⟩),g.lok.sub d,by have:=h.len;have:=d.length_le;show l.length≤8*o;omega,g.crl,g.cro⟩⟩
def Zjx (m:Mc) (k:Int) (c:Call) (e:Int):Prop:=
 (¬ (0≤c.p∧c.p < m.p∧6≤c.h∧c.h≤40)∧e=1)∨
 ((0≤c.p∧c.p < m.p∧6≤c.h∧c.h≤40)∧((JW c.l c.h=Xb∧e=6)∨(JW c.l c.h=Xc∧((JY m.rs c.l c.h < 0∧e=11)∨(0≤JY m.rs c.l c.h∧((tkB m.l k c.p 1=Xc∧e=3)∨(tkB m.l k c.p 1=Xb∧(e=7∨e=0))))))))
set_option maxHeartbeats 4000000 in
def s34 (m:Mc) {j o:Nat} (h:WfM m j) (a:j < o) (ho:o≤100) (k:Int) (D:0≤k∧k < (m.ws.length:Int)) (c:Call):Ret (fun r=>∃ e m',r=(e,mT m')∧Nx m m' o∧(e≠0→m'.l=m.l)∧Zjx m k c e) (g34 (Ze m.ws) m.st m.p (m.rs.map JQ) m.os (m.l.map Zf) m.tabs m.mem m.been (m.cr.map crc) k (o:Int) c.g c.r c.p c.c c.v c.o c.h c.f c.l c.n c.u c.w):=by
 have E:m.l.length < 2^63:=by have:=h.len;omega
 have J:m.l.length≤800:=by have:=h.len;omega
 have L:=h.w4;have M:=h.p1;have N:=h.r3;have b:=Nx.refl h (XU a);have O:k < (m.tabs.length:Int):=by rw [h.tl];exact D.2
 rw [ZpV,s65,Xj];refine Za (fun v=>Zc ⟨1,m,rfl,b,fun _=>rfl,.inl ⟨fun G=>?_,rfl⟩⟩) fun v=>?_
 ·simp at v;omega
 have d:0≤c.p∧c.p < m.p:=by simpa using v
 refine Za (fun w=>Zc ⟨1,m,rfl,b,fun _=>rfl,.inl ⟨fun G=>?_,rfl⟩⟩) fun w=>Za (fun y=>Zc ⟨1,m,rfl,b,fun _=>rfl,.inl ⟨fun G=>?_,rfl⟩⟩) fun y=>?_
 ·simp only [CQ] at w;omega
 ·simp only [CQ] at y;omega
 simp only [CQ] at w y;have g:0≤c.p∧c.p < m.p∧6≤c.h∧c.h≤40:=⟨d.1,d.2,by omega,by omega⟩;refine Zb (s26 c.l c.h) (Za (fun z=>Zc ⟨6,m,rfl,b,fun _=>rfl,.inr ⟨g,.inl ⟨by simpa using z,rfl⟩⟩⟩) fun z=>?_);have q:JW c.l c.h=Xc:=by simpa using z
 refine Zb (s27 m.rs (by omega) c.l c.h) (Za (fun A=>Zc ⟨11,m,rfl,b,fun _=>rfl,.inr ⟨g,.inr ⟨q,.inl ⟨by simpa only [CQ] using A,rfl⟩⟩⟩⟩) fun A=>?_);simp only [CQ] at A;have f:0≤JY m.rs c.l c.h:=by omega
 refine Zb (s66 m E h.paths k c.p 1 d.1 (by omega) (by decide)) (Za (fun C=>Zc ⟨3,m,rfl,b,fun _=>rfl,.inr ⟨g,.inr ⟨q,.inr ⟨f,.inl ⟨C,rfl⟩⟩⟩⟩⟩) fun C=>?_);have H:tkB m.l k c.p 1=Xb:=UL.2 C;refine Zbd f (by have:=Zmn m.rs _ _ f;omega) fun r=>?_;refine Zh (s67 m.l E ⟨0,0,0⟩ [⟨1,c.l,c.h,7,0,0,r.2.2⟩] (by simp)) fun Q _=>Za (fun _=>Zc ⟨7,m,rfl,b,fun _=>rfl,.inr ⟨g,.inr ⟨q,.inr ⟨f,.inr ⟨H,.inl rfl⟩⟩⟩⟩⟩) fun _=>?_;have s:J0 ⟨1,c.l,c.h,7,0,0,r.2.2⟩=Xc:=by simp [J0,KP,q];omega
 have R:Jw ⟨⟨k,(o:Int),0⟩,[],⟨1,c.l,c.h,7,0,0,r.2.2⟩⟩=Xc:=ZsC _ _ (by simp only [Kq,P5];omega) s;refine Zh (s68 m (j:=o) (h.lok.mono (XU a)) k c.p D d.1 [⟨⟨k,(o:Int),0⟩,[],⟨1,c.l,c.h,7,0,0,r.2.2⟩⟩] (by simp;omega) (by omega) (fun n t=>?_) (by simp;omega) (by have:=h.crl;omega) fun x S=>by have:=h.cro x S;omega) fun T u=>?_
 ·rw [XF] at t;subst t;exact ⟨R,Uk _,fun i U=>(by cases U),f⟩
 obtain ⟨l',W,rfl,X,Y,Z,a4⟩:=u;exact Zc ⟨0,_,rfl,Nx.ins h a X (by simp at Y;omega) Z a4,fun h=>absurd rfl h,.inr ⟨g,.inr ⟨q,.inr ⟨f,.inr ⟨H,.inr rfl⟩⟩⟩⟩⟩
def s35 (m:Mc) {j o:Nat} (h:WfM m j) (a:j < o) (A:o≤100) (k:Int) (d:0≤k∧k < (m.ws.length:Int)) (c:Call):Ret (fun r=>∃ e f g i n q s b t,r=(e,f,g,i,n,q,s,b,t,mT m)) (g35 (Ze m.ws) m.st m.p (m.rs.map JQ) m.os (m.l.map Zf) m.tabs m.mem m.been (m.cr.map crc) k c.g c.r c.p c.c c.v c.o c.h c.f c.l c.n c.u c.w):=by
 have u:m.l.length < 2^63:=by have:=h.len;omega
 have v:m.l.length≤800:=by have:=h.len;omega
 have w:=h.w4;have x:=h.p1;have y:=h.r3;have C:=Nx.refl h (XU a);have z:k < (m.tabs.length:Int):=by rw [h.tl];exact d.2
 rw [ZtL,s65,Xj];exact Za (fun _=>Zc ⟨_,_,_,_,_,_,_,_,_,rfl⟩) fun _=>Zb (s69 m u h.paths k c.r) (Za (fun _=>Zc ⟨_,_,_,_,_,_,_,_,_,rfl⟩) fun _=>Zc ⟨_,_,_,_,_,_,_,_,_,rfl⟩)
set_option maxHeartbeats 4000000 in
def s36 (m:Mc) {j o:Nat} (h:WfM m j) (b:j < o) (z:o≤100) (k:Int) (d:0≤k∧k < (m.ws.length:Int)) (c:Call):Ret (fun r=>∃ e m',r=(e,mT m')∧Nx m m' o∧m'.l=m.l) (g36 (Ze m.ws) m.st m.p (m.rs.map JQ) m.os (m.l.map Zf) m.tabs m.mem m.been (m.cr.map crc) k c.g c.r c.p c.c c.v c.o c.h c.f c.l c.n c.u c.w):=by
 have u:m.l.length < 2^63:=by have:=h.len;omega
 have v:m.l.length≤800:=by have:=h.len;omega
 have w:=h.w4;have x:=h.p1;have y:=h.r3;have f:=Nx.refl h (XU b);have a:k < (m.tabs.length:Int):=by rw [h.tl];exact d.2
 rw [ZtS,s65,Xj];refine Za (fun _=>Zc ⟨1,m,rfl,f,rfl⟩) fun _=>Za (fun _=>?_) fun _=>?_
 ·refine Zb (s65 m c.p) (Za (fun _=>Zc ⟨1,m,rfl,f,rfl⟩) fun _=>Za (fun _=>Zc ⟨1,m,rfl,f,rfl⟩) fun _=>Za (fun _=>Zc ⟨1,m,rfl,f,rfl⟩) fun _=>?_);refine Zb (s69 m u h.paths k c.r) (Za (fun _=>Zc ⟨2,m,rfl,f,rfl⟩) fun _=>Za (fun _=>?_) fun _=>?_)
  ·refine Zg d.1 (Zg a (ZaH h.tb d.1 a fun t g=>Zh (t42 g (by omega) (atN (atE m.l k c.r)).d c.u) fun i n=>Za (fun _=>Zg d.1 (Zg a (Zg d.1 (Zg a (Zc ⟨_,{ m with tabs:=Zw m.tabs k.toNat 0 [AV.slice Xb 4 i.1] },rfl,Nx.tabs h (XU b) (Wq ..) (ZgR (XU b) h.tb (YO n (XU b))),rfl⟩))))) fun _=>Zc ⟨_,m,rfl,f,rfl⟩))
  ·refine Zb (s69 m u h.paths k c.p) (Za (fun _=>Zc ⟨2,m,rfl,f,rfl⟩) fun _=>?_);refine Zg d.1 (Zg a (ZaH h.tb d.1 a fun t g=>Zh (t43 g (by omega) (atN (atE m.l k c.r)).d c.u (atN (atE m.l k c.p)) (Zmd h k c.p) c.v) fun q s=>Za (fun _=>Zg d.1 (Zg a (Zg d.1 (Zg a (Zc ⟨_,{ m with tabs:=Zw m.tabs k.toNat 0 [AV.slice Xb 4 q.1] },rfl,Nx.tabs h (XU b) (Wq ..) (ZgR (XU b) h.tb (YO s (by omega))),rfl⟩))))) fun _=>Zc ⟨_,m,rfl,f,rfl⟩))
 ·refine Zb (s69 m u h.paths k c.r) (Za (fun _=>Zc ⟨2,m,rfl,f,rfl⟩) fun _=>Za (fun _=>?_) fun _=>?_)
  ·refine Zg d.1 (Zg a (ZaH h.tb d.1 a fun t g=>Zh (t42 g (by omega) (atN (atE m.l k c.r)).d c.u) fun i n=>Za (fun _=>Zg d.1 (Zg a (Zg d.1 (Zg a (Zc ⟨_,{ m with tabs:=Zw m.tabs k.toNat 0 [AV.slice Xb 4 i.1] },rfl,Nx.tabs h (XU b) (Wq ..) (ZgR (XU b) h.tb (YO n (XU b))),rfl⟩))))) fun _=>Zc ⟨_,m,rfl,f,rfl⟩))
  ·refine Zb (s69 m u h.paths k c.p) (Za (fun _=>Zc ⟨2,m,rfl,f,rfl⟩) fun _=>?_);refine Zg d.1 (Zg a (ZaH h.tb d.1 a fun t g=>Zh (t43 g (by omega) (atN (atE m.l k c.r)).d c.u (atN (atE m.l k c.p)) (Zmd h k c.p) c.v) fun q s=>Za (fun _=>Zg d.1 (Zg a (Zg d.1 (Zg a (Zc ⟨_,{ m with tabs:=Zw m.tabs k.toNat 0 [AV.slice Xb 4 q.1] },rfl,Nx.tabs h (XU b) (Wq ..) (ZgR (XU b) h.tb (YO s (by omega))),rfl⟩))))) fun _=>Zc ⟨_,m,rfl,f,rfl⟩))
def s37 (m:Mc) {j o:Nat} (h:WfM m j) (u:j < o) (G:o≤100) (k:Int) (v:0≤k∧k < (m.ws.length:Int)) (c:Call):Ret (fun r=>∃ e a d f g i n b q,r=(e,a,d,f,g,i,n,b,q,mT m)) (g37 (Ze m.ws) m.st m.p (m.rs.map JQ) m.os (m.l.map Zf) m.tabs m.mem m.been (m.cr.map crc) k c.g c.r c.p c.c c.v c.o c.h c.f c.l c.n c.u c.w):=by
 have w:m.l.length < 2^63:=by have:=h.len;omega
 have x:m.l.length≤800:=by have:=h.len;omega
 have y:=h.w4;have A:=h.p1;have C:=h.r3;have H:=Nx.refl h (XU u);have s:k < (m.tabs.length:Int):=by rw [h.tl];exact v.2
 have z:∀ (e a d f g i n:Int) (b:Bool) (q:Int),Ret (fun r=>∃ e a d f g i n b q,r=(e,a,d,f,g,i,n,b,q,mT m)) (Xa (e,a,d,f,g,i,n,b,q,mT m)):=fun e a d f g i n b q=>Zc ⟨e,a,d,f,g,i,n,b,q,rfl⟩;rw [Zve,s65,Xj];refine Za (fun _=>z ..) fun _=>Za (fun _=>z ..) fun _=>Za (fun _=>z ..) fun _=>Zb (s69 m w h.paths k c.r) (Za (fun _=>z ..) fun _=>?_);refine Zg v.1 (Zg s (ZaH h.tb v.1 s fun t D=>Zh (t44 D (by omega) (atN (atE m.l k c.r)).d c.w) fun E _=>Za (fun _=>z ..) fun _=>Za (fun _=>z ..) fun _=>Zg (by decide) (z ..)))
def wOf (m:Mc) (k:Int):Int:=m.ws[k.toNat]?.getD 0
def Zk4 (m:Mc) (k:Int) (c:Call) (n:Yt) (e:Int):Prop:=
 (JN n.d c.o c.h c.f (wOf m k) c.l c.n≠0∧e=JN n.d c.o c.h c.f (wOf m k) c.l c.n)∨
 (JN n.d c.o c.h c.f (wOf m k) c.l c.n=0∧((tkB m.l k c.p c.n=Xc∧e=3)∨(tkB m.l k c.p c.n=Xb∧((n.q.length=8∧e=9)∨(n.q.length≠8∧(e=7∨e=0))))))
def Zqk (m:Mc) (k:Int) (c:Call) (n:Yt) (e:Int):Prop:=
 (tkB m.l k c.p 1=Xc∧e=3)∨(tkB m.l k c.p 1=Xb∧((n.q.length=8∧e=9)∨(n.q.length≠8∧e=0)))
def Zqw (m:Mc) (c:Call) (n:Yt) (e:Int):Prop:=
 ((n.d.g=3∨n.d.g=5∨n.d.g=6)∧e=5)∨(¬ (n.d.g=3∨n.d.g=5∨n.d.g=6)∧((P1 .and .i64 n.d.j 4=0∧e=8)∨(P1 .and .i64 n.d.j 4≠0∧((n.q.length=8∧e=9)∨(n.q.length≠8∧
  ((¬ (0≤c.c∧c.c < (m.ws.length:Int))∧e=10)∨((0≤c.c∧c.c < (m.ws.length:Int))∧(e=3∨e=0))))))))
def s73 (m:Mc) {j o:Nat} (h:WfM m j) (a:j < o) (ho:o≤100) (k:Int) (N:0≤k∧k < (m.ws.length:Int)) (c:Call) {s:Zk} (O:EM m.ws.length m.p m.rs j s) (hc:1≤c.n∧c.n≤8∧0≤c.p∧c.p≤m.p-c.n) :
  Ret (fun r=>∃ e m',r=(e,mT m')∧Nx m m' o∧(e≠0→m'.l=m.l)∧Zk4 m k c s.b e) (g73 (Ze m.ws) m.st m.p (m.rs.map JQ) m.os (m.l.map Zf) m.tabs m.mem m.been (m.cr.map crc) k (o:Int) s.b.id.c s.b.id.op s.b.id.k (Zd s.b.q) s.b.d.g s.b.d.t s.b.d.h s.b.d.j s.b.d.i s.b.d.f s.b.d.m c.g c.r c.p c.c c.v c.o c.h c.f c.l c.n c.u c.w):=by
 have hl:m.l.length < 2^63:=by have:=h.len;omega
 have ab:m.l.length≤800:=by have:=h.len;omega
 have ac:=h.w4;have ad:=h.p1;have ae:=h.r3;have Q:=Nx.refl h (XU a);have af:k < (m.tabs.length:Int):=by rw [h.tl];exact N.2
 have f1:k < 32:=by omega
 have f2:o≤200:=by omega
 have f3:m.p≤800:=by omega
 have f4:m.cr.length≤900:=by have:=h.crl;omega
 have f5:∀ x∈m.cr,x.2≤(o:Int):=fun x hx=>by have:=h.cro x hx;omega
 have f6:m.l.length+8≤900:=by omega
 have ag:m.l.length+1≤900:=by omega
 have f9:c.n.toNat≤8:=by omega
 have T:c.p+((c.n.toNat:Nat):Int)≤m.p:=by omega
 have U:c.p < 2^40:=by omega
 have W:c.n≤900:=by omega
 have kt:k.toNat < m.ws.length:=by omega
 have X:wOf m k=m.ws[k.toNat]:=by simp [wOf,kt]
 rw [ZpX];refine YP N.1 kt ?_;rw [← X];refine Zb (s63 ..) (Za (fun Y=>Zc ⟨_,m,rfl,Q,fun _=>rfl,.inl ⟨by simpa only [CQ] using Y,rfl⟩⟩) fun Y=>?_);have v:JN s.b.d c.o c.h c.f (wOf m k) c.l c.n=0:=by simpa only [CQ,Decidable.not_not] using Y
 obtain ⟨cs,w,y,Z⟩:=Zhi v;have g7:cs.length≤8:=by rw [y];exact f9
 have g8:cs.length < 1000:=Nat.lt_of_le_of_lt g7 (by decide);refine Zb (s66 m hl h.paths k c.p c.n hc.2.2.1 U W) (Za (fun h2=>Zc ⟨3,m,rfl,Q,fun _=>rfl,.inr ⟨v,.inl ⟨h2,rfl⟩⟩⟩) fun h2=>?_);have ht:tkB m.l k c.p c.n=Xb:=UL.2 h2;refine Za (fun h3=>Zc ⟨9,m,rfl,Q,fun _=>rfl,.inr ⟨v,.inr ⟨ht,.inl ⟨Ztm h3,rfl⟩⟩⟩⟩) fun h3=>?_;have u:s.b.q.length≠8:=fun e=>h3 (by simp only [CQ,Ja,e];rfl);have A:=s67 m.l hl s.b.id cs (Nat.lt_trans g8 (by decide));rw [← w] at A;refine Zh A fun ah _=>Za (fun _=>Zc ⟨7,m,rfl,Q,fun _=>rfl,.inr ⟨v,.inr ⟨ht,.inr ⟨u,.inl rfl⟩⟩⟩⟩) fun _=>?_
 have C:Ret (fun r=>∃ e m',r=(e,mT m')∧Nx m m' o∧(e≠0→m'.l=m.l)∧Zk4 m k c s.b e) (ZhS ZG (Ze m.ws) m.st m.p (m.rs.map JQ) m.os (m.l.map Zf) m.tabs m.mem m.been (m.cr.map crc) k (o:Int) s.b.id.c s.b.id.op s.b.id.k (Zd s.b.q) s.b.d.g s.b.d.t s.b.d.h s.b.d.j s.b.d.i s.b.d.f s.b.d.m c.g c.r c.p c.c c.v c.o c.h c.f c.l c.n c.u c.w (cs.map Kh) E0 0):=by
  refine Zo (F:=fun q (b:LL) z=>ZhS q (Ze m.ws) m.st m.p (m.rs.map JQ) m.os (m.l.map Zf) m.tabs m.mem m.been (m.cr.map crc) k (o:Int) s.b.id.c s.b.id.op s.b.id.k (Zd s.b.q) s.b.d.g s.b.d.t s.b.d.h s.b.d.j s.b.d.i s.b.d.f s.b.d.m c.g c.r c.p c.c c.v c.o c.h c.f c.l c.n c.u c.w (cs.map Kh) b z) cs.length
   (fun i b=>∃ d:List Yt,b=d.map Wd∧d.length=i∧∀ n∈d,Jw n=Xc∧n.id.op≤(o:Int)∧(∀ i∈n.q,i.op≤(o:Int))∧0≤JY m.rs n.d.t n.d.h) g8 ?_ E0 ⟨[],rfl,rfl,fun n g=>(by cases g)⟩
  rintro q i b R ⟨d,rfl,f,D⟩ E;refine Zi (Zjq ..) (Za (fun G=>?_) fun ai=>?_)
  ·simp only [CQ,Xi] at G;have S:i < cs.length:=UM.1 G;refine Zi (KM S _) ?_;have H:=Z _ (XC S);have J:=Zb3 (m:=m) (q:=i) O.ok O.op O.pa O.rg a f2 ⟨N.1,f1⟩ (Nat.lt_of_lt_of_le S g7) H.1 H.2 u;have aa:=ZjX J.1;refine Zb aa (Zg (Zj (by rw [Xi,f];exact XN (Nat.add_le_add_right (XN R g7) 1) (by decide)) (by decide)) ?_);rw [Jd R g8];refine E S _ ⟨d++[Ji s.b ⟨k,(o:Int),(i:Int)⟩ cs[i]],by simp [Wd,Ji],by simp [f],fun n g=>?_⟩;rcases Xq.1 g with g | g
   ·exact D n g
   ·rw [XF] at g;subst g;exact J.2
  ·have t:d.length≤8:=by rw [f];exact XN R g7
   have L:c.p+(d.length:Int)≤m.p:=by
    have:(d.length:Int)≤((c.n.toNat:Nat):Int):=by rw [f,← y];exact Int.ofNat_le.2 R
    exact Int.le_trans (Int.add_le_add_left this _) T
   refine Zh (s68 m (j:=o) (h.lok.mono (XU a)) k c.p N hc.2.2.1 d L f3 D (XN (T2 t _) f6) f4 f5) fun aj M=>?_;obtain ⟨l',ak,rfl,a1,a2,a3,a4⟩:=M;exact Zc ⟨0,_,rfl,Nx.ins h a a1 (XN a2 (T2 t _)) a3 a4,fun h=>absurd rfl h,.inr ⟨v,.inr ⟨ht,.inr ⟨u,.inr rfl⟩⟩⟩⟩
 rw [← w] at C;exact C
def Zig {m:Mc} {j o:Nat} {s:Zk} (b:EM m.ws.length m.p m.rs j s) (d:j < o) (g:o≤200) {k:Int} (h:0≤k∧k < 32) (a:Int) (l:s.b.q.length≠8) :
  ∃ n,n=Ji s.b ⟨k,(o:Int),0⟩ { s.b.d with j:=P1 .and .i64 s.b.d.j a }∧Za3 s.b ⟨k,(o:Int),0⟩ { s.b.d with j:=P1 .and .i64 s.b.d.j a }∧∀ x∈[n],Jw x=Xc∧x.id.op≤(o:Int)∧(∀ i∈x.q,i.op≤(o:Int))∧0≤JY m.rs x.d.t x.d.h:=by
 have e:=(Z4 b.ok).2.1;have c:=Zb3 (m:=m) (q:=0) b.ok b.op b.pa b.rg d g h (by decide) (ZkW e a) (ZoH (Zfm e)) l;exact ⟨_,rfl,c.1,fun x f=>by rw [XF] at f;subst f;exact c.2⟩
def s74 (m:Mc) {j o:Nat} (h:WfM m j) (a:j < o) (ho:o≤100) (k:Int) (g:0≤k∧k < (m.ws.length:Int)) (c:Call) {s:Zk} (A:EM m.ws.length m.p m.rs j s) (w:0≤c.p∧c.p < m.p) :
  Ret (fun r=>∃ e m',r=(e,mT m')∧Nx m m' o∧(e≠0→m'.l=m.l)∧Zqk m k c s.b e) (g74 (Ze m.ws) m.st m.p (m.rs.map JQ) m.os (m.l.map Zf) m.tabs m.mem m.been (m.cr.map crc) k (o:Int) s.b.id.c s.b.id.op s.b.id.k (Zd s.b.q) s.b.d.g s.b.d.t s.b.d.h s.b.d.j s.b.d.i s.b.d.f s.b.d.m c.g c.r c.p c.c c.v c.o c.h c.f c.l c.n c.u c.w):=by
 have C:m.l.length < 2^63:=by have:=h.len;omega
 have D:m.l.length≤800:=by have:=h.len;omega
 have E:=h.w4;have G:=h.p1;have H:=h.r3;have y:=Nx.refl h (XU a);have J:k < (m.tabs.length:Int):=by rw [h.tl];exact g.2
 have L:k < 32:=by omega
 have M:o≤200:=by omega
 have N:m.p≤800:=by omega
 have O:m.cr.length≤900:=by have:=h.crl;omega
 have Q:∀ x∈m.cr,x.2≤(o:Int):=fun x R=>by have:=h.cro x R;omega
 have f6:m.l.length+8≤900:=by omega
 have i:m.l.length+1≤900:=by omega
 have S:c.p+((1:Nat):Int)≤m.p:=by omega
 have q:c.p < 2^40:=by omega
 rw [Zqb];refine Zb (s66 m C h.paths k c.p 1 w.1 q (by decide)) (Za (fun t=>Zc ⟨3,m,rfl,y,fun _=>rfl,.inl ⟨t,rfl⟩⟩) fun t=>?_);have z:tkB m.l k c.p 1=Xb:=UL.2 t;refine Za (fun u=>Zc ⟨9,m,rfl,y,fun _=>rfl,.inr ⟨z,.inl ⟨Ztm u,rfl⟩⟩⟩) fun u=>?_;have b:s.b.q.length≠8:=fun e=>u (by simp only [CQ,Ja,e];rfl);obtain ⟨n,T,U,W⟩:=Zig (m:=m) A a M (k:=k) ⟨g.1,L⟩ c.v b;have v:=ZjX U;refine Zb (Zxy ..) (Zb v ?_);have d:=s68 m (j:=o) (h.lok.mono (XU a)) k c.p g w.1 [n] S N W i O Q;rw [T] at d;refine Zh d fun X f=>?_;obtain ⟨l',Y,rfl,Z,a2,a3,a4⟩:=f;exact Zc ⟨0,_,rfl,Nx.ins h a Z (XN a2 (T2 (show 1≤8 by decide) _)) a3 a4,fun h=>absurd rfl h,.inr ⟨z,.inr ⟨b,rfl⟩⟩⟩
def s75 (m:Mc) {j o:Nat} (h:WfM m j) (b:j < o) (ho:o≤100) (k:Int) (A:0≤k∧k < (m.ws.length:Int)) (c:Call) {s:Zk} (H:EM m.ws.length m.p m.rs j s) (C:0≤c.p∧c.p < m.p) :
  Ret (fun r=>∃ e m',r=(e,mT m')∧Nx m m' o∧(e≠0→m'.l=m.l)∧Zqw m c s.b e) (g75 (Ze m.ws) m.st m.p (m.rs.map JQ) m.os (m.l.map Zf) m.tabs m.mem m.been (m.cr.map crc) k (o:Int) s.b.id.c s.b.id.op s.b.id.k (Zd s.b.q) s.b.d.g s.b.d.t s.b.d.h s.b.d.j s.b.d.i s.b.d.f s.b.d.m c.g c.r c.p c.c c.v c.o c.h c.f c.l c.n c.u c.w):=by
 have J:m.l.length < 2^63:=by have:=h.len;omega
 have L:m.l.length≤800:=by have:=h.len;omega
 have M:=h.w4;have N:=h.p1;have O:=h.r3;have g:=Nx.refl h (XU b);have Q:k < (m.tabs.length:Int):=by rw [h.tl];exact A.2
 have R:k < 32:=by omega
 have S:o≤200:=by omega
 have T:m.p≤800:=by omega
 have U:m.cr.length≤900:=by have:=h.crl;omega
 have W:∀ x∈m.cr,x.2≤(o:Int):=fun x X=>by have:=h.cro x X;omega
 have f6:m.l.length+8≤900:=by omega
 have v:m.l.length+1≤900:=by omega
 have Y:c.p+((1:Nat):Int)≤m.p:=by omega
 have w:c.p < 2^40:=by omega
 rw [ZpN];refine Za (fun q=>Zc ⟨5,m,rfl,g,fun _=>rfl,.inl ⟨.inl (by simpa only [CQ] using q),rfl⟩⟩) fun D=>Za (fun q=>Zc ⟨5,m,rfl,g,fun _=>rfl,.inl ⟨.inr (.inl (by simpa only [CQ] using q)),rfl⟩⟩) fun E=>Za (fun q=>Zc ⟨5,m,rfl,g,fun _=>rfl,.inl ⟨.inr (.inr (by simpa only [CQ] using q)),rfl⟩⟩) fun G=>?_;simp only [CQ] at D E G;have a:¬ (s.b.d.g=3∨s.b.d.g=5∨s.b.d.g=6):=fun h=>h.elim D fun h=>h.elim E G;refine Za (fun q=>Zc ⟨8,m,rfl,g,fun _=>rfl,.inr ⟨a,.inl ⟨by simpa only [CQ] using q,rfl⟩⟩⟩) fun Z=>?_;have d:P1 .and .i64 s.b.d.j 4≠0:=by simpa only [CQ] using Z
 refine Za (fun y=>Zc ⟨9,m,rfl,g,fun _=>rfl,.inr ⟨a,.inr ⟨d,.inl ⟨Ztm y,rfl⟩⟩⟩⟩) fun y=>?_;have f:s.b.q.length≠8:=fun e=>y (by simp only [CQ,Ja,e];rfl);refine Zb (s33 m h.mem c.c) (Za (fun q=>Zc ⟨10,m,rfl,g,fun _=>rfl,.inr ⟨a,.inr ⟨d,.inr ⟨f,.inl ⟨Kv q,rfl⟩⟩⟩⟩⟩) fun q5=>?_);have i:0≤c.c∧c.c < (m.ws.length:Int):=Zer q5;refine Zb (s66 m J h.paths c.c c.p 1 C.1 w (by decide)) (Za (fun h2=>Zc ⟨3,m,rfl,g,fun _=>rfl,.inr ⟨a,.inr ⟨d,.inr ⟨f,.inr ⟨i,.inl rfl⟩⟩⟩⟩⟩) fun h2=>?_);obtain ⟨n,hn,hC,hN⟩:=Zig (m:=m) H b S (k:=k) ⟨A.1,R⟩ c.v f;have z:=ZjX hC;refine Zb (Zxy ..) (Zb z ?_);have t:=s68 m (j:=o) (h.lok.mono (XU b)) c.c c.p i C.1 [n] Y T hN v U W;rw [hn] at t;refine Zh t fun aa u=>?_;obtain ⟨l',ab,rfl,a1,a2,a3,a4⟩:=u;exact Zc ⟨0,_,rfl,Nx.ins h b a1 (XN a2 (T2 (show 1≤8 by decide) _)) a3 a4,fun h=>absurd rfl h,.inr ⟨a,.inr ⟨d,.inr ⟨f,.inr ⟨i,.inr rfl⟩⟩⟩⟩⟩
def Ju {a b:Int} (h:P0 .eql a b=Xc):a=b:=by simpa only [CQ] using h
def Jv {a b:Int} (h:¬ P0 .eql a b=Xc):a≠b:=by simpa only [CQ] using h
def wfD (m:Mc) (k:Int) (c:Call):Prop:=
 (0≤c.r∧c.r < m.p)∧(c.g=2→1≤c.n∧c.n≤8∧0≤c.p∧c.p≤m.p-c.n)∧(c.g=3→(0≤c.p∧c.p < m.p)∧0≤c.v∧c.v≤7)∧
  (c.g=4→(0≤c.p∧c.p < m.p)∧(0≤c.v∧c.v≤7)∧(0≤c.c∧c.c < 32)∧c.c≠k)
def ZiU (m:Mc) (k:Int) (c:Call) (e:Int):Prop:=
 (¬ wfD m k c∧e=1)∨(wfD m k c∧((atE m.l k c.r=none∧e=2)∨∃ s,atE m.l k c.r=Xa s∧(c.g=2→Zk4 m k c s.b e)∧(c.g=3→Zqk m k c s.b e)∧(c.g=4→Zqw m c s.b e)∧(c.g=5∨c.g=6→e=0)))
set_option maxHeartbeats 4000000 in
def s38 (m:Mc) {j o:Nat} (h:WfM m j) (d:j < o) (U:o≤100) (k:Int) (S:0≤k∧k < (m.ws.length:Int)) (c:Call):Ret (fun r=>∃ e m',r=(e,mT m')∧Nx m m' o∧(e≠0→m'.l=m.l)∧ZiU m k c e) (g38 (Ze m.ws) m.st m.p (m.rs.map JQ) m.os (m.l.map Zf) m.tabs m.mem m.been (m.cr.map crc) k (o:Int) c.g c.r c.p c.c c.v c.o c.h c.f c.l c.n c.u c.w):=by
 have hl:m.l.length < 2^63:=by have:=h.len;omega
 have ad:m.l.length≤800:=by have:=h.len;omega
 have ae:=h.w4;have af:=h.p1;have ag:=h.r3;have E:=Nx.refl h (XU d);have ah:k < (m.tabs.length:Int):=by rw [h.tl];exact S.2
 have Y:j≤800:=by omega
 have Z:m.tabs.length≤100:=by rw [h.tl];omega
 have G:m.l.length≤900:=by omega
 have H:Kj m.l:=h.lok.few (by omega);have aa:1≤c.n→c.n≤8→P1 .sub .i64 m.p c.n=m.p-c.n:=fun h1 J=>by have:=h.p0;exact Zdl (by omega) (by omega)
 rw [ZpR,s65,Xj];refine Za (fun h1=>Zc ⟨1,m,rfl,E,fun _=>rfl,.inl ⟨fun w=>?_,rfl⟩⟩) fun h1=>?_
 ·exact Kv h1 w.1
 have hs:=Zer h1;refine Za (fun y2=>?_) fun y2=>Za (fun y3=>?_) fun y3=>Za (fun y4=>?_) fun y4=>?_
 ·have a:c.g=2:=Ju y2;refine Za (fun q=>Zc ⟨1,m,rfl,E,fun _=>rfl,.inl ⟨fun w=>?_,rfl⟩⟩) fun q1=>Za (fun q=>Zc ⟨1,m,rfl,E,fun _=>rfl,.inl ⟨fun w=>?_,rfl⟩⟩) fun T=>Za (fun q=>Zc ⟨1,m,rfl,E,fun _=>rfl,.inl ⟨fun w=>?_,rfl⟩⟩) fun W=>Za (fun q=>Zc ⟨1,m,rfl,E,fun _=>rfl,.inl ⟨fun w=>?_,rfl⟩⟩) fun X=>?_
  ·have:=w.2.1 a;simp only [CQ] at q;omega
  ·have:=w.2.1 a;simp only [CQ] at q;omega
  ·have:=w.2.1 a;simp only [CQ] at q;omega
  ·have:=w.2.1 a;simp only [CQ] at q q1 T;rw [aa (by omega) (by omega)] at q;omega
  simp only [CQ] at q1 T W X;rw [aa (by omega) (by omega)] at X;have f:wfD m k c:=⟨hs,fun _=>⟨by omega,by omega,by omega,by omega⟩,fun h=>absurd (a.symm.trans h) (by decide),fun h=>absurd (a.symm.trans h) (by decide)⟩;refine Zb (s69 m hl h.paths k c.r) ?_
  cases hat:atE m.l k c.r with
  | none => exact Za (fun _ => Zc ⟨2, m, rfl, E, fun _ => rfl, .inr ⟨f, .inl ⟨hat, rfl⟩⟩⟩) fun L => absurd (show (!false) = Xc from rfl) L
  | some s =>
   have M:=h.lok.ent s (UE hat);refine Za (fun L=>absurd (show (!true)=Xc from L) (by decide)) fun _=>Za (fun A=>?_) fun A=>Za (fun C=>?_) fun C=>Za (fun D=>?_) fun D=>Za (fun q5=>?_) fun q5=>?_
   ·have a:c.g=2:=Ju A;refine Zh (s73 m h d U k S c M (f.2.1 a)) fun r g=>?_;obtain ⟨e,m',rfl,u,v,y⟩:=g;exact Zc ⟨e,m',rfl,u,v,.inr ⟨f,.inr ⟨s,hat,fun _=>y,fun h=>absurd (a.symm.trans h) (by decide),fun h=>absurd (a.symm.trans h) (by decide),fun h=>h.elim (fun h=>absurd (a.symm.trans h) (by decide)) fun h=>absurd (a.symm.trans h) (by decide)⟩⟩⟩
   ·have a:c.g=3:=Ju C;refine Zh (s74 m h d U k S c M (f.2.2.1 a).1) fun r g=>?_;obtain ⟨e,m',rfl,u,v,y⟩:=g;exact Zc ⟨e,m',rfl,u,v,.inr ⟨f,.inr ⟨s,hat,fun h=>absurd (a.symm.trans h) (by decide),fun _=>y,fun h=>absurd (a.symm.trans h) (by decide),fun h=>h.elim (fun h=>absurd (a.symm.trans h) (by decide)) fun h=>absurd (a.symm.trans h) (by decide)⟩⟩⟩
   ·have a:c.g=4:=Ju D;refine Zh (s75 m h d U k S c M (f.2.2.2 a).1) fun r g=>?_;obtain ⟨e,m',rfl,u,v,y⟩:=g;exact Zc ⟨e,m',rfl,u,v,.inr ⟨f,.inr ⟨s,hat,fun h=>absurd (a.symm.trans h) (by decide),fun h=>absurd (a.symm.trans h) (by decide),fun _=>y,fun h=>h.elim (fun h=>absurd (a.symm.trans h) (by decide)) fun h=>absurd (a.symm.trans h) (by decide)⟩⟩⟩
   ·have J:=Jv A;have N:=Jv C;have O:=Jv D;refine Zh (s76 m.l H s.b.id) fun r g=>?_;obtain ⟨x,b⟩:=r;obtain ⟨n,e1,z⟩:=g;obtain rfl:x=n.map Zf:=e1;refine Zh (s78 { m with l:=n } (j:=j) Y h.tb (XN z.length_le G) Z) fun r2 i=>?_;obtain ⟨t,rfl,Q,R⟩:=i;exact Zc ⟨0,{ m with l:=n,tabs:=t },rfl,Nx.syn h (XU d) z Q R,fun h=>absurd rfl h,.inr ⟨f,.inr ⟨s,hat,fun h=>absurd h J,fun h=>absurd h N,fun h=>absurd h O,fun _=>rfl⟩⟩⟩
   ·have J:=Jv A;have N:=Jv C;have O:=Jv D;refine Zh (s77 m.l H s.b.id) fun r g=>?_;obtain ⟨n,rfl,z⟩:=g;refine Zh (s78 { m with l:=n } (j:=j) Y h.tb (XN z.length_le G) Z) fun r2 i=>?_;obtain ⟨t,rfl,Q,R⟩:=i;exact Zc ⟨0,{ m with l:=n,tabs:=t },rfl,Nx.syn h (XU d) z Q R,fun h=>absurd rfl h,.inr ⟨f,.inr ⟨s,hat,fun h=>absurd h J,fun h=>absurd h N,fun h=>absurd h O,fun _=>rfl⟩⟩⟩
 ·have a:c.g=3:=Ju y3;refine Zb (s65 m c.p) (Za (fun q=>Zc ⟨1,m,rfl,E,fun _=>rfl,.inl ⟨fun w=>?_,rfl⟩⟩) fun q1=>Za (fun q=>Zc ⟨1,m,rfl,E,fun _=>rfl,.inl ⟨fun w=>?_,rfl⟩⟩) fun T=>Za (fun q=>Zc ⟨1,m,rfl,E,fun _=>rfl,.inl ⟨fun w=>?_,rfl⟩⟩) fun W=>?_)
  ·exact Kv q (w.2.2.1 a).1
  ·have:=w.2.2.1 a;simp only [CQ] at q;omega
  ·have:=w.2.2.1 a;simp only [CQ] at q;omega
  have hd:=Zer q1;simp only [CQ] at T W;have f:wfD m k c:=⟨hs,fun h=>absurd (a.symm.trans h) (by decide),fun _=>⟨hd,by omega,by omega⟩,fun h=>absurd (a.symm.trans h) (by decide)⟩;refine Zb (s69 m hl h.paths k c.r) ?_
  cases hat:atE m.l k c.r with
  | none => exact Za (fun _ => Zc ⟨2, m, rfl, E, fun _ => rfl, .inr ⟨f, .inl ⟨hat, rfl⟩⟩⟩) fun L => absurd (show (!false) = Xc from rfl) L
  | some s =>
   have M:=h.lok.ent s (UE hat);refine Za (fun L=>absurd (show (!true)=Xc from L) (by decide)) fun _=>Za (fun A=>?_) fun A=>Za (fun C=>?_) fun C=>Za (fun D=>?_) fun D=>Za (fun q5=>?_) fun q5=>?_
   ·have a:c.g=2:=Ju A;refine Zh (s73 m h d U k S c M (f.2.1 a)) fun r g=>?_;obtain ⟨e,m',rfl,u,v,y⟩:=g;exact Zc ⟨e,m',rfl,u,v,.inr ⟨f,.inr ⟨s,hat,fun _=>y,fun h=>absurd (a.symm.trans h) (by decide),fun h=>absurd (a.symm.trans h) (by decide),fun h=>h.elim (fun h=>absurd (a.symm.trans h) (by decide)) fun h=>absurd (a.symm.trans h) (by decide)⟩⟩⟩
   ·have a:c.g=3:=Ju C;refine Zh (s74 m h d U k S c M (f.2.2.1 a).1) fun r g=>?_;obtain ⟨e,m',rfl,u,v,y⟩:=g;exact Zc ⟨e,m',rfl,u,v,.inr ⟨f,.inr ⟨s,hat,fun h=>absurd (a.symm.trans h) (by decide),fun _=>y,fun h=>absurd (a.symm.trans h) (by decide),fun h=>h.elim (fun h=>absurd (a.symm.trans h) (by decide)) fun h=>absurd (a.symm.trans h) (by decide)⟩⟩⟩
   ·have a:c.g=4:=Ju D;refine Zh (s75 m h d U k S c M (f.2.2.2 a).1) fun r g=>?_;obtain ⟨e,m',rfl,u,v,y⟩:=g;exact Zc ⟨e,m',rfl,u,v,.inr ⟨f,.inr ⟨s,hat,fun h=>absurd (a.symm.trans h) (by decide),fun h=>absurd (a.symm.trans h) (by decide),fun _=>y,fun h=>h.elim (fun h=>absurd (a.symm.trans h) (by decide)) fun h=>absurd (a.symm.trans h) (by decide)⟩⟩⟩
   ·have J:=Jv A;have N:=Jv C;have O:=Jv D;refine Zh (s76 m.l H s.b.id) fun r g=>?_;obtain ⟨x,b⟩:=r;obtain ⟨n,e1,z⟩:=g;obtain rfl:x=n.map Zf:=e1;refine Zh (s78 { m with l:=n } (j:=j) Y h.tb (XN z.length_le G) Z) fun r2 i=>?_;obtain ⟨t,rfl,Q,R⟩:=i;exact Zc ⟨0,{ m with l:=n,tabs:=t },rfl,Nx.syn h (XU d) z Q R,fun h=>absurd rfl h,.inr ⟨f,.inr ⟨s,hat,fun h=>absurd h J,fun h=>absurd h N,fun h=>absurd h O,fun _=>rfl⟩⟩⟩
   ·have J:=Jv A;have N:=Jv C;have O:=Jv D;refine Zh (s77 m.l H s.b.id) fun r g=>?_;obtain ⟨n,rfl,z⟩:=g;refine Zh (s78 { m with l:=n } (j:=j) Y h.tb (XN z.length_le G) Z) fun r2 i=>?_;obtain ⟨t,rfl,Q,R⟩:=i;exact Zc ⟨0,{ m with l:=n,tabs:=t },rfl,Nx.syn h (XU d) z Q R,fun h=>absurd rfl h,.inr ⟨f,.inr ⟨s,hat,fun h=>absurd h J,fun h=>absurd h N,fun h=>absurd h O,fun _=>rfl⟩⟩⟩
 ·have a:c.g=4:=Ju y4;refine Zb (s65 m c.p) (Za (fun q=>Zc ⟨1,m,rfl,E,fun _=>rfl,.inl ⟨fun w=>?_,rfl⟩⟩) fun q1=>Za (fun q=>Zc ⟨1,m,rfl,E,fun _=>rfl,.inl ⟨fun w=>?_,rfl⟩⟩) fun T=>Za (fun q=>Zc ⟨1,m,rfl,E,fun _=>rfl,.inl ⟨fun w=>?_,rfl⟩⟩) fun W=>Za (fun q=>Zc ⟨1,m,rfl,E,fun _=>rfl,.inl ⟨fun w=>?_,rfl⟩⟩) fun X=>Za (fun q=>Zc ⟨1,m,rfl,E,fun _=>rfl,.inl ⟨fun w=>?_,rfl⟩⟩) fun ac=>Za (fun q=>Zc ⟨1,m,rfl,E,fun _=>rfl,.inl ⟨fun w=>?_,rfl⟩⟩) fun ab=>?_)
  ·exact Kv q (w.2.2.2 a).1
  ·have:=w.2.2.2 a;simp only [CQ] at q;omega
  ·have:=w.2.2.2 a;simp only [CQ] at q;omega
  ·have:=w.2.2.2 a;simp only [CQ] at q;omega
  ·have:=w.2.2.2 a;simp only [CQ] at q;omega
  ·have:=w.2.2.2 a;simp only [CQ] at q;omega
  have hd:=Zer q1;simp only [CQ] at T W X ac ab;have f:wfD m k c:=⟨hs,fun h=>absurd (a.symm.trans h) (by decide),fun h=>absurd (a.symm.trans h) (by decide),fun _=>⟨hd,⟨by omega,by omega⟩,⟨by omega,by omega⟩,ab⟩⟩;refine Zb (s69 m hl h.paths k c.r) ?_
  cases hat:atE m.l k c.r with
  | none => exact Za (fun _ => Zc ⟨2, m, rfl, E, fun _ => rfl, .inr ⟨f, .inl ⟨hat, rfl⟩⟩⟩) fun L => absurd (show (!false) = Xc from rfl) L
  | some s =>
   have M:=h.lok.ent s (UE hat);refine Za (fun L=>absurd (show (!true)=Xc from L) (by decide)) fun _=>Za (fun A=>?_) fun A=>Za (fun C=>?_) fun C=>Za (fun D=>?_) fun D=>Za (fun q5=>?_) fun q5=>?_
   ·have a:c.g=2:=Ju A;refine Zh (s73 m h d U k S c M (f.2.1 a)) fun r g=>?_;obtain ⟨e,m',rfl,u,v,y⟩:=g;exact Zc ⟨e,m',rfl,u,v,.inr ⟨f,.inr ⟨s,hat,fun _=>y,fun h=>absurd (a.symm.trans h) (by decide),fun h=>absurd (a.symm.trans h) (by decide),fun h=>h.elim (fun h=>absurd (a.symm.trans h) (by decide)) fun h=>absurd (a.symm.trans h) (by decide)⟩⟩⟩
   ·have a:c.g=3:=Ju C;refine Zh (s74 m h d U k S c M (f.2.2.1 a).1) fun r g=>?_;obtain ⟨e,m',rfl,u,v,y⟩:=g;exact Zc ⟨e,m',rfl,u,v,.inr ⟨f,.inr ⟨s,hat,fun h=>absurd (a.symm.trans h) (by decide),fun _=>y,fun h=>absurd (a.symm.trans h) (by decide),fun h=>h.elim (fun h=>absurd (a.symm.trans h) (by decide)) fun h=>absurd (a.symm.trans h) (by decide)⟩⟩⟩
   ·have a:c.g=4:=Ju D;refine Zh (s75 m h d U k S c M (f.2.2.2 a).1) fun r g=>?_;obtain ⟨e,m',rfl,u,v,y⟩:=g;exact Zc ⟨e,m',rfl,u,v,.inr ⟨f,.inr ⟨s,hat,fun h=>absurd (a.symm.trans h) (by decide),fun h=>absurd (a.symm.trans h) (by decide),fun _=>y,fun h=>h.elim (fun h=>absurd (a.symm.trans h) (by decide)) fun h=>absurd (a.symm.trans h) (by decide)⟩⟩⟩
   ·have J:=Jv A;have N:=Jv C;have O:=Jv D;refine Zh (s76 m.l H s.b.id) fun r g=>?_;obtain ⟨x,b⟩:=r;obtain ⟨n,e1,z⟩:=g;obtain rfl:x=n.map Zf:=e1;refine Zh (s78 { m with l:=n } (j:=j) Y h.tb (XN z.length_le G) Z) fun r2 i=>?_;obtain ⟨t,rfl,Q,R⟩:=i;exact Zc ⟨0,{ m with l:=n,tabs:=t },rfl,Nx.syn h (XU d) z Q R,fun h=>absurd rfl h,.inr ⟨f,.inr ⟨s,hat,fun h=>absurd h J,fun h=>absurd h N,fun h=>absurd h O,fun _=>rfl⟩⟩⟩
   ·have J:=Jv A;have N:=Jv C;have O:=Jv D;refine Zh (s77 m.l H s.b.id) fun r g=>?_;obtain ⟨n,rfl,z⟩:=g;refine Zh (s78 { m with l:=n } (j:=j) Y h.tb (XN z.length_le G) Z) fun r2 i=>?_;obtain ⟨t,rfl,Q,R⟩:=i;exact Zc ⟨0,{ m with l:=n,tabs:=t },rfl,Nx.syn h (XU d) z Q R,fun h=>absurd rfl h,.inr ⟨f,.inr ⟨s,hat,fun h=>absurd h J,fun h=>absurd h N,fun h=>absurd h O,fun _=>rfl⟩⟩⟩
 ·have f:wfD m k c:=⟨hs,fun h=>absurd h (Jv y2),fun h=>absurd h (Jv y3),fun h=>absurd h (Jv y4)⟩;refine Zb (s69 m hl h.paths k c.r) ?_
  cases hat:atE m.l k c.r with
  | none => exact Za (fun _ => Zc ⟨2, m, rfl, E, fun _ => rfl, .inr ⟨f, .inl ⟨hat, rfl⟩⟩⟩) fun L => absurd (show (!false) = Xc from rfl) L
  | some s =>
   have M:=h.lok.ent s (UE hat);refine Za (fun L=>absurd (show (!true)=Xc from L) (by decide)) fun _=>Za (fun A=>?_) fun A=>Za (fun C=>?_) fun C=>Za (fun D=>?_) fun D=>Za (fun q5=>?_) fun q5=>?_
   ·have a:c.g=2:=Ju A;refine Zh (s73 m h d U k S c M (f.2.1 a)) fun r g=>?_;obtain ⟨e,m',rfl,u,v,y⟩:=g;exact Zc ⟨e,m',rfl,u,v,.inr ⟨f,.inr ⟨s,hat,fun _=>y,fun h=>absurd (a.symm.trans h) (by decide),fun h=>absurd (a.symm.trans h) (by decide),fun h=>h.elim (fun h=>absurd (a.symm.trans h) (by decide)) fun h=>absurd (a.symm.trans h) (by decide)⟩⟩⟩
   ·have a:c.g=3:=Ju C;refine Zh (s74 m h d U k S c M (f.2.2.1 a).1) fun r g=>?_;obtain ⟨e,m',rfl,u,v,y⟩:=g;exact Zc ⟨e,m',rfl,u,v,.inr ⟨f,.inr ⟨s,hat,fun h=>absurd (a.symm.trans h) (by decide),fun _=>y,fun h=>absurd (a.symm.trans h) (by decide),fun h=>h.elim (fun h=>absurd (a.symm.trans h) (by decide)) fun h=>absurd (a.symm.trans h) (by decide)⟩⟩⟩
   ·have a:c.g=4:=Ju D;refine Zh (s75 m h d U k S c M (f.2.2.2 a).1) fun r g=>?_;obtain ⟨e,m',rfl,u,v,y⟩:=g;exact Zc ⟨e,m',rfl,u,v,.inr ⟨f,.inr ⟨s,hat,fun h=>absurd (a.symm.trans h) (by decide),fun h=>absurd (a.symm.trans h) (by decide),fun _=>y,fun h=>h.elim (fun h=>absurd (a.symm.trans h) (by decide)) fun h=>absurd (a.symm.trans h) (by decide)⟩⟩⟩
   ·have J:=Jv A;have N:=Jv C;have O:=Jv D;refine Zh (s76 m.l H s.b.id) fun r g=>?_;obtain ⟨x,b⟩:=r;obtain ⟨n,e1,z⟩:=g;obtain rfl:x=n.map Zf:=e1;refine Zh (s78 { m with l:=n } (j:=j) Y h.tb (XN z.length_le G) Z) fun r2 i=>?_;obtain ⟨t,rfl,Q,R⟩:=i;exact Zc ⟨0,{ m with l:=n,tabs:=t },rfl,Nx.syn h (XU d) z Q R,fun h=>absurd rfl h,.inr ⟨f,.inr ⟨s,hat,fun h=>absurd h J,fun h=>absurd h N,fun h=>absurd h O,fun _=>rfl⟩⟩⟩
   ·have J:=Jv A;have N:=Jv C;have O:=Jv D;refine Zh (s77 m.l H s.b.id) fun r g=>?_;obtain ⟨n,rfl,z⟩:=g;refine Zh (s78 { m with l:=n } (j:=j) Y h.tb (XN z.length_le G) Z) fun r2 i=>?_;obtain ⟨t,rfl,Q,R⟩:=i;exact Zc ⟨0,{ m with l:=n,tabs:=t },rfl,Nx.syn h (XU d) z Q R,fun h=>absurd rfl h,.inr ⟨f,.inr ⟨s,hat,fun h=>absurd h J,fun h=>absurd h N,fun h=>absurd h O,fun _=>rfl⟩⟩⟩
def ZkM {γ:Type} {l:List (Int×Int)} {i:Nat} (h:i < l.length) (k:(Int×Int)→Option γ):Zn (l.map crc) (i:Int) [.int .i64,.int .i64] k=k (l[i].1,l[i].2):=
 YD (f:=crc) (sh:=[.int .i64,.int .i64]) (v:=fun x=>(x.1,x.2)) (fun _=>rfl) h k
set_option maxHeartbeats 4000000 in
def s11 (m:Mc) {j o:Nat} (h:WfM m j) (a:j < o) (C:o≤100) (k:Int) (n:0≤k∧k < (m.ws.length:Int)) (c:Call):Ret (fun r=>∃ e d f t u v w b x m',r=(e,d,f,t,u,v,w,b,x,mT m')∧Nx m m' o∧(e≠0∨6 < c.g→m'.l=m.l)∧(c.g=1→Zjx m k c e)∧(2≤c.g→c.g≤6→ZiU m k c e)) (g11 (Ze m.ws) m.st m.p (m.rs.map JQ) m.os (m.l.map Zf) m.tabs m.mem m.been (m.cr.map crc) k (o:Int) c.g c.r c.p c.c c.v c.o c.h c.f c.l c.n c.u c.w):=by
 have hl:m.l.length < 2^63:=by have:=h.len;omega
 have W:m.l.length≤800:=by have:=h.len;omega
 have X:=h.w4;have Y:=h.p1;have Z:=h.r3;have nx:=Nx.refl h (XU a);have aa:k < (m.tabs.length:Int):=by rw [h.tl];exact n.2
 have D:m.cr.length < 1000:=by have:=h.crl;omega
 have J:¬ P0 .lss (o:Int) 1=Xc:=by simp only [CQ];omega
 have L:¬ P0 .gtr (o:Int) 1073741824=Xc:=by simp only [CQ];omega
 have z:∀ (e d f t u v w:Int) (b:Bool) (x:Int),(c.g < 1∨10 < c.g∨6 < c.g)→Ret (fun r=>∃ e d f t u v w b x m',r=(e,d,f,t,u,v,w,b,x,mT m')∧Nx m m' o∧(e≠0∨6 < c.g→m'.l=m.l)∧(c.g=1→Zjx m k c e)∧(2≤c.g→c.g≤6→ZiU m k c e)) (Xa (e,d,f,t,u,v,w,b,x,mT m)):=
  fun e d f t u v w b x hc=>Zc ⟨e,d,f,t,u,v,w,b,x,m,rfl,nx,fun _=>rfl,fun h=>(by omega),fun h1 h2=>(by omega)⟩
 rw [ZpW,s33 m h.mem k,Xj];refine Za (fun q=>absurd n (Kv q)) fun _=>Za (fun q=>absurd q J) fun _=>Za (fun q=>absurd q L) fun _=>Za (fun q=>z _ _ _ _ _ _ _ _ _ ?_) fun q1=>Za (fun q=>z _ _ _ _ _ _ _ _ _ ?_) fun q2=>?_
 ·simp only [CQ] at q;omega
 ·simp only [CQ] at q;omega
 simp only [CQ] at q1 q2;refine Zo (F:=fun q (_:Unit) z=>ZkU q (Ze m.ws) m.st m.p (m.rs.map JQ) m.os (m.l.map Zf) m.tabs m.mem m.been (m.cr.map crc) k (o:Int) c.g c.r c.p c.c c.v c.o c.h c.f c.l c.n c.u c.w 0 0 0 0 0 0 0 Xb 0 z) m.cr.length (fun _ _=>True) D ?_ () trivial;intro q i s hi _ E;refine Zi (Zjn ..) (Za (fun G=>?_) fun ab=>?_)
 ·simp only [CQ,Xi] at G;have M:i < m.cr.length:=UM.1 G;refine Zi (ZkM M _) (Za (fun R=>?_) fun _=>?_)
  ·have ac:=h.cro _ (XC M);rw [Xk,Xk] at R;have:=Ju R.2.1;omega
  ·rw [Jd hi D];exact E M () trivial
 ·refine Za (fun N=>?_) fun N=>Za (fun S=>?_) fun S=>Za (fun T=>?_) fun T=>Za (fun U=>?_) fun U=>Za (fun H=>?_) fun H=>?_
  ·have ad:=Ju N;refine Zh (s34 m h a C k n c) fun r g=>?_;obtain ⟨e,m',rfl,d,y,f⟩:=g;exact Zc ⟨e,_,_,_,_,_,_,_,_,m',rfl,d,fun O=>O.elim y (fun h=>absurd h (by omega)),fun _=>f,fun h=>absurd h (by omega)⟩
  ·have A:=Ju S;refine Zh (s35 m h a C k n c) fun r g=>?_;obtain ⟨e,b1,b2,b3,b4,b5,b6,b,b8,rfl⟩:=g;exact z _ _ _ _ _ _ _ _ _ (by omega)
  ·have A:=Ju T;refine Zh (s36 m h a C k n c) fun r g=>?_;obtain ⟨e,m',rfl,d,y⟩:=g;exact Zc ⟨e,_,_,_,_,_,_,_,_,m',rfl,d,fun _=>y,fun h=>absurd h (by omega),fun h Q=>absurd Q (by omega)⟩
  ·have A:=Ju U;refine Zh (s36 m h a C k n c) fun r g=>?_;obtain ⟨e,m',rfl,d,y⟩:=g;exact Zc ⟨e,_,_,_,_,_,_,_,_,m',rfl,d,fun _=>y,fun h=>absurd h (by omega),fun h Q=>absurd Q (by omega)⟩
  ·have A:=Ju H;refine Zh (s37 m h a C k n c) fun r g=>?_;obtain ⟨e,b1,b2,b3,b4,b5,b6,b,b8,rfl⟩:=g;exact z _ _ _ _ _ _ _ _ _ (by omega)
  ·have n1:=Jv N;refine Zh (s38 m h a C k n c) fun r g=>?_;obtain ⟨e,m',rfl,d,y,f⟩:=g;exact Zc ⟨e,_,_,_,_,_,_,_,_,m',rfl,d,fun O=>O.elim y (fun h=>absurd h (by simp only [CQ] at *; omega)),fun h=>absurd h n1,fun _ _=>f⟩
def Ztv (a:List Reg):Prop:=∀ (i:Nat) (h:i < a.length),a[i].t=((i:Int)+1)*262144∧15≤a[i].h∧a[i].h≤17
def ZhF {i:Nat} (e:i < 3) {b:Int} (f:15≤b) (g:b≤17):JW (((i:Int)+1)*262144) b=Xc∧2^b.toNat≤(131072:Int):=by
 have a:(2:Int)^(15:Int).toNat=32768:=by decide
 have c:(2:Int)^(16:Int).toNat=65536:=by decide
 have d:(2:Int)^(17:Int).toNat=131072:=by decide
 simp only [JW,P5];rcases (by omega:b=15∨b=16∨b=17) with rfl | rfl | rfl
 ·rw [a];omega
 ·rw [c];omega
 ·rw [d];omega
def Zrv {i k:Nat} (m:k < i) (a:i < 3) {b c:Int} (d:15≤b) (f:b≤17) (g:15≤c) (j:c≤17):Zbi (((i:Int)+1)*262144) b (((k:Int)+1)*262144) c=Xb:=by
 obtain ⟨n,o⟩:=ZhF (i:=i) a d f;obtain ⟨l,p⟩:=ZhF (i:=k) (by omega) g j;rw [← XT];intro h;simp only [Zbi,Xk,P5] at h;have e:YZ (((k:Int)+1)*262144) c=((k:Int)+1)*262144+2^c.toNat:=by simp only [YZ,l,if_true]
 have:=h.1.2;rw [e] at this;omega
def ZBa (a:List Int) (p:Int) (b:List Reg) (g:List Int) (T:1≤a.length∧a.length≤4) (U:1≤b.length∧b.length≤3) (W:g.length=b.length) (o:∀ w∈a,w=32∨w=39) (X:4≤p∧p≤10) (l:Ztv b) (u:∀ x∈g,0≤x∧x < (a.length:Int)) :
  g19 (Ze a) (a.length:Int) p (b.map JQ) (Ze g)=Xa Xc:=by
 have v:Ret (fun r=>r=Xc) (g19 (Ze a) (a.length:Int) p (b.map JQ) (Ze g)):=by
  have H:(Xg (Ze a):Int)=a.length:=by rw [JH]
  have J:(Xg (b.map JQ):Int)=b.length:=by simp
  have L:(Xg (Ze g):Int)=g.length:=by rw [JH]
  rw [Zt6,H,J,L];refine Za (fun q=>by simp only [CQ] at q;omega) fun _=>Za (fun q=>by simp only [CQ] at q;omega) fun _=>Za (fun q=>by simp only [CQ] at q;omega) fun _=>Za (fun q=>by simp only [CQ] at q;omega) fun _=>Za (fun q=>by simp only [CQ] at q;omega) fun _=>Za (fun q=>by simp only [CQ] at q;omega) fun _=>Za (fun q=>by simp only [CQ] at q;omega) fun _=>Za (fun q=>by simp only [CQ] at q;omega) fun _=>?_;refine Zo (F:=fun k (_:Unit) z=>ZmZ k (Ze a) (a.length:Int) p (b.map JQ) (Ze g) z) a.length (fun _ _=>True) (by omega) ?_ () trivial;intro k i s n _ c;refine Zi (ZoP ..) (Za (fun d=>?_) fun _=>?_)
  ·simp only [CQ,JH] at d;have f:i < a.length:=UM.1 d;have M:=o _ (XC f);refine Zi (JI f _) (Za (fun q=>Zi (JI f _) (Za (fun N=>?_) fun _=>?_)) fun _=>?_)
   ·simp only [CQ] at q N;omega
   ·rw [Jd n (by omega)];exact c f () trivial
   ·rw [Jd n (by omega)];exact c f () trivial
  ·refine Zo (F:=fun k (_:Unit) z=>ZsM k (Ze a) (a.length:Int) p (b.map JQ) (Ze g) z) b.length (fun _ _=>True) (by omega) ?_ () trivial;intro k i s n _ c;refine Zi (Zol ..) (Za (fun d=>?_) fun _=>Zc rfl);simp only [CQ,Xi] at d;have f:i < b.length:=UM.1 d;have y:i < g.length:=by omega
   have M:=u _ (XC y);obtain ⟨C,D,E⟩:=l i f;refine Zi (JI y _) (Za (fun q=>by simp only [CQ] at q;omega) fun _=>Zi (JI y _) (Za (fun q=>by simp only [CQ] at q;omega) fun _=>Zi (Kl f _) ?_));refine Zb (s53 ..) (Zb (s26 ..) (Za (fun q=>?_) fun _=>?_))
   ·have:=(ZhF (i:=i) (by omega) D E).1;rw [← C] at this;rw [this] at q
    cases q
   refine Zo (F:=fun G (_:Unit) z=>Zn1 (F19.lp [1,1,1,1,1,1,1,1,0,1,0] 0 r0 k) G (Ze a) (a.length:Int) p (b.map JQ) (Ze g) (i:Int) z) i (fun _ _=>True) (by omega) ?_ () trivial;intro G t Y O _ j;refine Zi (ZpA ..) (Za (fun h=>?_) fun _=>?_)
   ·simp only [CQ] at h;have A:t < i:=UM.1 h;have m:t < b.length:=Nat.lt_trans A f;obtain ⟨Q,R,S⟩:=l t m;refine Zi (Kl f _) (Zb (s53 ..) (Zi (Kl m _) (Zb (s53 ..) (Zb (s54 ..) (Za (fun q=>?_) fun _=>?_)))))
    ·have:=Zrv A (by omega) D E R S;rw [← C,← Q] at this;rw [this] at q
     cases q
    ·rw [Jd O (by omega)];exact j A () trivial
   ·rw [Jd n (by omega)];exact c f () trivial
 obtain ⟨r,e,rfl⟩:=v;exact e
def ZfI {c:Type} (f:c→c):∀ (a:List c) (x:c) (b:List c),(a++x::b).modify a.length f=a++f x::b
 | [], x, b => rfl
 | y :: a, x, b => by simpa using ZfI f a x b
def mm (i n:Nat):LL:=Xv i [B Xc]++Xv (n-i) [B Xb]
def ZpU {i n:Nat} (h:i < n):Zw (mm i n) i 0 [B Xc]=mm (i+1) n:=by
 obtain ⟨q,rfl⟩:∃ q,n=i+q+1:=⟨n-i-1,by omega⟩;unfold Zw mm;rw [show i+q+1-i=q+1 by omega,show i+q+1-(i+1)=q by omega,List.replicate_succ (n:=q)];have:=ZfI (fun x=>setCells x 0 [B Xc]) (Xv i [B Xc]) [B Xb] (Xv q [B Xb]);rw [List.length_replicate] at this;rw [this,show setCells [B Xb] 0 [B Xc] = [B Xc] from rfl,List.replicate_succ' (n:=i),XB];rfl
def s4w (a:List Int) (p:Int) (b:List Reg) (d:List Int) (j:1≤a.length∧a.length≤4) (n:1≤b.length∧b.length≤3) (D:d.length=b.length) (g:∀ w∈a,w=32∨w=39) (E:4≤p∧p≤10) (o:Ztv b) (t:∀ x∈d,0≤x∧x < (a.length:Int)) :
  Ret (fun r=>∃ m,r=mT m∧m.ws=a∧m.p=p∧m.rs=b∧WfM m 0) (g4 (Ze a) (a.length:Int) p (b.map JQ) (Ze d)):=by
 have G:(Xg (Ze a):Int)=a.length:=by rw [JH]
 have u:∀ k,k≤100→Zfg (a.length:Int) k:=fun k M=>by
  unfold Zfg Jr;refine ⟨by omega,?_⟩;rw [Ua];have:a.length*(k+1)≤4*101:=Nat.mul_le_mul j.2 (by omega);omega
 rw [Zzo,G,ZBa a p b d j n D g E o t,Xj];refine Za (fun q=>by cases q) fun _=>Zg (u _ (by decide)) (Zg (Uk _) (Zg (Uk _) (Zg (u _ (by decide)) (Zg (Uk _) (Zg (Uk _) (Zg (u _ (by decide)) (Zg (Uk _) (Zg (Uk _) ?_))))))));rw [Ua];refine Zo (F:=fun k (s:LL×LL) z=>Zw2 k (Ze a) (a.length:Int) p (b.map JQ) (Ze d) z (Ze a) (a.length:Int) p (b.map JQ) (Ze d) E0 (Xv a.length [AV.slice Xb 4 E0]) s.1 s.2 E0) a.length (fun i s=>s=(mm i a.length,mm i a.length)) (by omega) ?_ (Xv a.length [B Xb],Xv a.length [B Xb]) (by simp [mm]);rintro k i s H rfl h;have J:(mm i a.length).length=a.length:=by simp [mm];omega
 refine Zi (Zq9 ..) (Za (fun f=>?_) fun v=>?_)
 ·simp only [CQ] at f;have y:i < a.length:=UM.1 f;have l:(i:Int) < (Xg (mm i a.length):Int):=by rw [J];exact f
  refine Zg (by omega) (Zg l (Zg (by omega) (Zg l (Zg (by omega) (Zg l (Zg (by omega) (Zg l ?_)))))));rw [Jd H (by omega),Ua];exact h y (_,_) (Prod.ext (ZpU y) (ZpU y))
 ·simp only [CQ] at v;have A:i=a.length:=by omega
  subst A;refine Zc ⟨⟨a,(a.length:Int),p,b,Ze d,[],Xv a.length [AV.slice Xb 4 E0],mm a.length a.length,mm a.length a.length,[]⟩,rfl,rfl,rfl,rfl,⟨j.1,j.2,g,by show 1≤p;omega,by show p≤12;omega,n.1,n.2,by simp [mm],by simp,fun c C=>⟨[],List.eq_of_mem_replicate C,Y4 0⟩,⟨fun e L=>(by cases L),List.Pairwise.nil⟩,Xt _,Xt _,fun c C=>(by cases C)⟩⟩
def s7w (i:List Int) (n p:Int) (j:List Reg) (A:LL) (k C D E G H J L M N:Int) (h1:1≤i.length) (h2:i.length≤4) (h3:1≤j.length) (h4:j.length≤3) (s:1≤p∧p≤100) :
  Ret (fun r=>∃ c:Call,r=ZvT c∧c.n≤1000∧1≤c.g) (g7 (Ze i) n p (j.map JQ) A k C D E G H J L M N):=by
 rw [Zzm];refine Zh (place _ _ (by decide) (by decide)) fun a ha=>Zh (place _ _ s.1 (by omega)) fun b hb=>Zh (place _ _ s.1 (by omega)) fun d hd=>Zh (place _ _ (by decide) (by decide)) fun e he=>?_;have O:(Xg (j.map JQ):Int)=j.length:=by simp
 have t:(Xg (Ze i):Int)=i.length:=by simp [JH]
 have Q:P1 .add .i64 1 a=1+a:=JP (by omega) (by omega);have cr:∀ {u R S T U W X Y Z m o q:Int},m≤1000→1≤u→Ret (fun r=>∃ c:Call,r=ZvT c∧c.n≤1000∧1≤c.g) (Xa (u,R,S,T,U,W,X,Y,Z,m,o,q)):=fun h h'=>Zc ⟨⟨_,_,_,_,_,_,_,_,_,_,_,_⟩,rfl,h,h'⟩;rw [Q];have f:1≤1+a:=by omega
 refine Za (fun _=>?_) fun _=>Za (fun _=>?_) fun _=>Za (fun _=>?_) fun _=>Za (fun _=>?_) fun _=>Za (fun _=>?_) fun _=>Za (fun _=>?_) fun _=>cr (by decide) f
 ·rw [O];refine Zh (place _ _ (by omega) (by omega)) fun r hr=>Zbd hr.1 (by omega) fun g=>Zh (place _ _ (by decide) (by decide)) fun x w=>Zh (place _ _ (by decide) (by decide)) fun y _=>?_;refine Zg (K9 _) (cr (by decide) f)
 ·refine Zh (place _ _ (by decide) (by decide)) fun x w=>Zh (place _ _ (by decide) (by decide)) fun y hy=>?_;rw [show P1 .sub .i64 (P1 .add .i64 1 x) 1=x by rw [JP (by omega) (by omega),Zdl (by omega) (by omega)];omega];refine YP (l:=[P1 .add .i64 12 y,12,12,6,10,16]) w.1 (by simp;omega) ?_;refine Zh (place _ _ (by decide) (by decide)) fun _ _=>Zh (place _ _ (by decide) (by decide)) fun z hz=>Zh (place _ _ (by decide) (by decide)) fun _ _=>Zg ?_ (cr ?_ f)
  ·refine K9 _
  ·rw [JP (by omega) (by omega)];omega
 ·rw [t];exact Zh (place _ _ (by omega) (by omega)) fun _ _=>cr (by decide) f
 ·exact Zh (place _ _ (by decide) (by decide)) fun _ _=>cr (by decide) f
 ·exact Zh (place _ _ (by decide) (by decide)) fun _ _=>cr (by decide) f
 ·refine Zh (place _ _ (by decide) (by decide)) fun _ _=>?_;rw [t];exact Zh (place _ _ (by omega) (by omega)) fun v hv=>YP hv.1 (by omega) (Zh (s21 _ _) fun _ _=>cr (by decide) f)
def s10 (m:Mc) {n:Nat} (g:m.mem=Xv n [B Xc]) (o:n≤100):g10 (Ze m.ws) m.st m.p (m.rs.map JQ) m.os (m.l.map Zf) m.tabs m.mem m.been (m.cr.map crc)=Xa (Ze ((XK n).map fun (i:Nat)=>(i:Int)),mT m):=by
 have d:=Zme m g
 have f:Ret (fun r=>r=(Ze ((XK n).map fun (i:Nat)=>(i:Int)),mT m)) (g10 (Ze m.ws) m.st m.p (m.rs.map JQ) m.os (m.l.map Zf) m.tabs m.mem m.been (m.cr.map crc)):=by
  rw [Zwo];refine Zo (F:=fun q (s:LL) z=>Zle q (Ze m.ws) m.st m.p (m.rs.map JQ) m.os (m.l.map Zf) m.tabs m.mem m.been (m.cr.map crc) s z) n (fun i s=>s=Ze ((XK i).map fun (i:Nat)=>(i:Int))) (by omega) ?_ E0 rfl;rintro q i s k rfl b;refine Zi (ZpG ..) (Za (fun a=>?_) fun c=>?_)
  ·simp only [CQ] at a;rw [d] at a;have j:i < n:=UM.1 a;refine Zg (by omega) (Zg (by rw [d];exact a) ?_);refine Zi (JS (sh:=[.bool]) (cs:=[B Xc]) (r:=Xc) _ (by omega) (by rw [g,Ua,T0,P4 j]) rfl) (Za (fun _=>Zg (Zj (by rw [JH];simp;omega) (by decide)) ?_) fun h=>absurd rfl h);rw [Jd k (by omega)];exact b j _ (by simp [Ze,Zhl,List.range_succ])
  ·simp only [CQ] at c;rw [d] at c;have:i=n:=by omega
   subst this;exact Zc rfl
 obtain ⟨r,e,rfl⟩:=f;exact e
def Znp (n:Nat) (x:Int):(((XK n).map fun (i:Nat)=>(i:Int)).any fun y=>decide (x=y))=decide (0≤x∧x < (n:Int)):=by
 rw [Z6,Ut,P5];constructor
 ·rintro ⟨y,a,h⟩;obtain ⟨i,b,rfl⟩:=Xs.1 a;rw [P5] at h;have:=Uf.1 b;omega
 ·intro h;exact ⟨x,Xs.2 ⟨x.toNat,Uf.2 (by omega),by omega⟩,by simp⟩
def s8 (m:Mc) (h:Kj m.l):g8 (Ze m.ws) m.st m.p (m.rs.map JQ) m.os (m.l.map Zf) m.tabs m.mem m.been (m.cr.map crc)=Xa (m.l.map Zf,mT m):=by rw [Zzy,s22 m.l h,Xj]
def YK (l:List Zk) (k:Int) (i:Nat):Vx:=⟨atN (atE l k (i:Int)),0,zid⟩
def Vj (l:List Zk) (k:Int) (q:Nat):List Vx:=(XK q).map (YK l k)
def Zjt (l:List Zk) (k:Int) (q:Nat):(Vj l k q).length=q:=by simp [Vj]
def ZbO (l:List Zk) (k:Int) (q i:Nat):(Vj l k q)[i]? = if i < q then Xa (YK l k i) else none:=by
 unfold Vj;rw [Xp];split
 ·rename_i h;rw [TU h];rfl
 ·rename_i h;rw [Ur (by simp;omega)];rfl
def Zre {w:Nat} {p:Int} {m:List Reg} {j:Nat} {l:List Zk} (h:LOk w p m j l) {t:Nat} (d:t < l.length) (k:Int) (q:Nat) :
  (if l[t].c=k then (Vj (l.take t) k q).modify l[t].r.toNat (fun s=>{ s with b:=l[t].b }) else Vj (l.take t) k q)=Vj (l.take (t+1)) k q:=by
 have f:l.take (t+1)=l.take t++[l[t]]:=by rw [U8,Xm d];rfl
 have y:=(h.ent _ (XC d)).s0
 have n:∀ s,plE k s l[t]=Xc→atE (l.take t) k s=none:=by
  intro s b;refine List.find?_eq_none.2 fun x o a=>?_;obtain ⟨u,r,rfl⟩:=UU o;rw [Xu] at r;rw [Tk] at a;have:=UB.1 h.pl u t (by omega) d (by omega);simp only [plE,Xk,P5] at b a;exact this ⟨a.1.trans b.1.symm,a.2.trans b.2.symm⟩
 have v:∀ s,plE k s l[t]=Xc→atE (l.take (t+1)) k s=Xa l[t]:=fun s b=>by
  have:=n s b;unfold atE at this ⊢;rw [f,List.find?_append,this,List.find?_cons,b];rfl
 have g:∀ s,plE k s l[t]=Xb→atE (l.take (t+1)) k s=atE (l.take t) k s:=fun s b=>by
  unfold atE;rw [f,List.find?_append,List.find?_cons,b,List.find?_nil,Option.or_none]
 split
 ·rename_i e;apply UO;intro i;rw [Te,ZbO,ZbO];by_cases hi:i < q
  ·rw [P4 hi,P4 hi];show Xa (if l[t].r.toNat=i then _ else _)=Xa _;by_cases he:l[t].r.toNat=i
   ·have a:plE k (i:Int) l[t]=Xc:=by simp only [plE,Xk,P5];exact ⟨e,by omega⟩
    rw [P4 he,YK,YK,v _ a];rfl
   ·have a:plE k (i:Int) l[t]=Xb:=by rw [← XT];intro c;simp only [plE,Xk,P5] at c;omega
    rw [P3 he,YK,YK,g _ a]
  ·rw [P3 hi,P3 hi];rfl
 ·rename_i e;apply UO;intro i;rw [ZbO,ZbO];have a:plE k (i:Int) l[t]=Xb:=by rw [← XT];intro c;simp only [plE,Xk,P5] at c;exact e c.1
  rw [YK,YK,g _ a]
def Zfx {l:List Zk} (a:∀ e∈l,Jw e.b=Xc) (k:Int) (i:Nat):Y2 (YK l k i) = !(atE l k (i:Int)).isSome:=by
 unfold Y2 YK
 cases ha:atE l k (i:Int) with
 | none => exact decide_eq_true (show VH.id = zid from rfl)
 | some e =>
  have:=(Z4 (a e (UE ha))).1;simp only [Kq,P5] at this;refine decide_eq_false fun h=>?_;have b:e.b.id=zid:=h;rw [b] at this;have:(zid:Id).op=0:=rfl;omega
def Za4 {l:List Zk} (a:∀ e∈l,Jw e.b=Xc) (k:Int) {q:Nat} {d c:Int} (b:0≤d) (f:0≤c) (h:d+c≤(q:Int)):Zgj (Vj l k q) d c=tkB l k d c:=by
 have e:ZnV (Vj l k q) d c=(XK c.toNat).map fun i=>YK l k (d.toNat+i):=by
  unfold ZnV;apply UO;intro i;rw [List.getElem?_take,List.getElem?_drop,ZbO,Xp];by_cases hi:i < c.toNat
  ·rw [P4 hi,P4 (by omega),TU hi];rfl
  ·rw [P3 hi,Ur (by simp;omega)];rfl
 unfold Zgj tkB;rw [e,List.any_map];congr 1;funext i;show (!Y2 (YK l k (d.toNat+i)))=_;rw [Zfx a,Bool.not_not];congr 2;omega
def ZmN {l:List Zk} {k:Int} {q:Nat} {z:Int} (a:0≤z) (b:z < (q:Int)):getS (Vj l k q) z=⟨atN (atE l k z),0,zid⟩:=by
 unfold getS;rw [ZbO,P4 (by omega)];show YK l k z.toNat=_;unfold YK;rw [U7 a]
set_option maxHeartbeats 4000000 in
def Zzw {m:Mc} {j:Nat} (h:WfM m j) {op:Int} (y:1≤op∧op≤1073741824) {k:Int} (Y:0≤k∧k < (m.ws.length:Int)) {c:Call} (Z:1≤c.g) (z:c.g≤6) {e:Int} (G:c.g=1→Zjx m k c e) (H:2≤c.g→c.g≤6→ZiU m k c e) {g:Int}
  (b:g=(Zcp k op (wOf m k) (Vj m.l k m.p.toNat) m.rs ((XK m.ws.length).map fun (i:Nat)=>(i:Int)) c).2.2) :
  (g≠0→e=g)∧(g=0→e=0∨e=7∨(c.g=4∧e=3)):=by
 have J:∀ e∈m.l,Jw e.b=Xc:=fun e v=>(h.lok.ent e v).ok;have aa:=h.p0;have ab:=h.w4;have U:((m.p.toNat:Nat):Int)=m.p:=by omega
 have Q:((Vj m.l k m.p.toNat).length:Int)=m.p:=by rw [Zjt];exact U
 have A:wOf m k=32∨wOf m k=39:=by
  have W:k.toNat < m.ws.length:=by omega
  have:wOf m k=m.ws[k.toNat]:=by simp [wOf,W]
  rw [this];exact h.ww _ (XC W)
 have r:Zbk k op (wOf m k) (Vj m.l k m.p.toNat).length c=wfB k m.p c:=by
  unfold Zbk;rw [Q,decide_eq_true ⟨Y.1,by omega,y.1,y.2,A⟩,Tx]
 have t:Zgm (Vj m.l k m.p.toNat) c=Xb:=by
  unfold Zgm;rw [UC];intro x _;rw [Zf7 (fun s hs=>?_) x]
  ·decide
  ·obtain ⟨i,_,rfl⟩:=Xs.1 hs;exact ⟨rfl,rfl⟩
 unfold Zcp at b;rw [r,t] at b
 cases hw:wfB k m.p c with
 | false =>
  rw [hw,P4 rfl] at b;have L:=of_decide_eq_false hw;have C:g=1:=b;subst C;refine ⟨fun _=>?_,fun h=>absurd h (by decide)⟩;by_cases k1:c.g=1
  ·rcases G k1 with ⟨_,rfl⟩ | ⟨n,_⟩
   ·rfl
   ·exact absurd (.inl ⟨k1,⟨n.1,n.2.1⟩,n.2.2⟩) L
  ·rcases H (by omega) z with ⟨_,rfl⟩ | ⟨n,_⟩
   ·rfl
   ·refine absurd ?_ L;obtain ⟨M,R,X,N⟩:=n;by_cases k2:c.g=2
    ·exact .inr (.inl ⟨k2,M,⟨(R k2).1,(R k2).2.1⟩,(R k2).2.2⟩)
    by_cases k3:c.g=3
    ·exact .inr (.inr (.inl ⟨k3,M,(X k3).1,(X k3).2⟩))
    by_cases k4:c.g=4
    ·exact .inr (.inr (.inr (.inl ⟨k4,M,(N k4).1,(N k4).2.1,(N k4).2.2.1,(N k4).2.2.2⟩)))
    ·exact .inr (.inr (.inr (.inr ⟨by omega,M⟩)))
 | true =>
  rw [hw,P3 (by decide),P3 (by decide)] at b;have w:=of_decide_eq_true hw;unfold Zhe at b;by_cases k1:c.g=1
  ·have n:0≤c.p∧c.p < m.p∧6≤c.h∧c.h≤40:=by clear b G H;omega
   rw [P4 k1] at b
   have d:g=Ke (Vj m.l k m.p.toNat) m.rs c:=by
    rw [b];split
    ·rfl
    ·rename_i S;exact (Decidable.not_not.1 S).symm
   unfold Ke at d;rw [Za4 J k n.1 (by decide) (by omega)] at d;rcases G k1 with ⟨nb,_⟩ | ⟨_,⟨hr,rfl⟩ | ⟨hr,⟨hg,rfl⟩ | ⟨hg,⟨ht,rfl⟩ | ⟨ht,v⟩⟩⟩⟩
   ·exact absurd n nb
   ·rw [P4 hr] at d;subst d;exact ⟨fun _=>rfl,fun h=>absurd h (by decide)⟩
   ·rw [hr,P3 (by decide),P4 hg] at d;subst d;exact ⟨fun _=>rfl,fun h=>absurd h (by decide)⟩
   ·rw [hr,P3 (by decide),P3 (Int.not_lt.2 hg),P4 ht] at d;subst d;exact ⟨fun _=>rfl,fun h=>absurd h (by decide)⟩
   ·rw [hr,P3 (by decide),P3 (Int.not_lt.2 hg),ht,P3 (by decide)] at d;subst d;exact ⟨fun h=>absurd rfl h,fun _=>v.elim (fun h=>.inr (.inl h)) .inl⟩
  ·rw [P3 k1] at b
   have f:wfD m k c:=by
    refine ⟨?_,fun o=>?_,fun o=>?_,fun o=>?_⟩ <;> (clear b G H;omega)
   have u:=f.1;have D:=ZmN (l:=m.l) (k:=k) (q:=m.p.toNat) u.1 (by rw [U];exact u.2);rw [D] at b;rcases H (by omega) z with ⟨L,_⟩ | ⟨_,⟨hat,rfl⟩ | ⟨s,hat,d2,d3,d4,d56⟩⟩
   ·exact absurd f L
   ·rw [hat] at b
    have O:ZnQ (wOf m k) (Vj m.l k m.p.toNat) ((XK m.ws.length).map fun (i:Nat)=>(i:Int)) ⟨atN none,0,zid⟩ c=2:=by
     unfold ZnQ;rw [P4 (show Y2 ⟨atN none,0,zid⟩=Xc from decide_eq_true (show VH.id=zid from rfl))]
    rw [O,P4 (by decide)] at b;have E:g=2:=b;subst E;exact ⟨fun _=>rfl,fun h=>absurd h (by decide)⟩
   ·rw [hat] at b;have v:=h.lok.ent s (UE hat)
    have T:Y2 ⟨atN (Xa s),0,zid⟩=Xb:=by
     have:=Zfx J k c.r.toNat;unfold YK at this;rw [U7 u.1,hat] at this;exact this
    have O:ZnQ (wOf m k) (Vj m.l k m.p.toNat) ((XK m.ws.length).map fun (i:Nat)=>(i:Int)) ⟨atN (Xa s),0,zid⟩ c=Zqj (wOf m k) (Vj m.l k m.p.toNat) ((XK m.ws.length).map fun (i:Nat)=>(i:Int)) s.b c:=by
     unfold ZnQ;rw [T,P3 (by decide)];rfl
    rw [O,P3 (c:=JY m.rs (atN (Xa s)).d.t (atN (Xa s)).d.h < 0) (Int.not_lt.2 v.rg)] at b
    have a:g=Zqj (wOf m k) (Vj m.l k m.p.toNat) ((XK m.ws.length).map fun (i:Nat)=>(i:Int)) s.b c:=by
     rw [b];split
     ·rfl
     ·rename_i S;exact (Decidable.not_not.1 S).symm
    have h8:=(Z4 v.ok).2.2.1;have l8:(8≤s.b.q.length)↔s.b.q.length=8:=by omega
    clear b O;unfold Zqj at a;simp only [l8,Znp] at a;by_cases k2:c.g=2
    ·rw [P4 k2,Za4 J k (f.2.1 k2).2.2.1 (by have:=(f.2.1 k2).1;omega) (by have:=(f.2.1 k2).2.2.2;omega)] at a;rcases d2 k2 with ⟨hr,rfl⟩ | ⟨hr,⟨ht,rfl⟩ | ⟨ht,⟨hl,rfl⟩ | ⟨hl,he7⟩⟩⟩
     ·rw [P4 hr] at a;exact ⟨fun _=>a.symm,fun h0=>absurd (a.symm.trans h0) hr⟩
     ·rw [P3 (fun o=>o hr),P4 ht] at a;subst a;exact ⟨fun _=>rfl,fun h=>absurd h (by decide)⟩
     ·rw [P3 (fun o=>o hr),ht,P3 (by decide),P4 hl] at a;subst a;exact ⟨fun _=>rfl,fun h=>absurd h (by decide)⟩
     ·rw [P3 (fun o=>o hr),ht,P3 (by decide),P3 hl] at a;subst a;exact ⟨fun h=>absurd rfl h,fun _=>he7.elim (fun h=>.inr (.inl h)) .inl⟩
    rw [P3 k2] at a;by_cases k3:c.g=3
    ·rw [P4 k3,Za4 J k (f.2.2.1 k3).1.1 (by decide) (by have:=(f.2.2.1 k3).1.2;omega)] at a;rcases d3 k3 with ⟨ht,rfl⟩ | ⟨ht,⟨hl,rfl⟩ | ⟨hl,rfl⟩⟩
     ·rw [P4 ht] at a;subst a;exact ⟨fun _=>rfl,fun h=>absurd h (by decide)⟩
     ·rw [ht,P3 (by decide),P4 hl] at a;subst a;exact ⟨fun _=>rfl,fun h=>absurd h (by decide)⟩
     ·rw [ht,P3 (by decide),P3 hl] at a;subst a;exact ⟨fun h=>absurd rfl h,fun _=>.inl rfl⟩
    rw [P3 k3] at a;by_cases k4:c.g=4
    ·rw [P4 k4] at a;rcases d4 k4 with ⟨hd,rfl⟩ | ⟨hd,⟨hr,rfl⟩ | ⟨hr,⟨hl,rfl⟩ | ⟨hl,⟨hm,rfl⟩ | ⟨hm,he3⟩⟩⟩⟩
     ·rw [P4 hd] at a;subst a;exact ⟨fun _=>rfl,fun h=>absurd h (by decide)⟩
     ·rw [P3 hd,P4 hr] at a;subst a;exact ⟨fun _=>rfl,fun h=>absurd h (by decide)⟩
     ·rw [P3 hd,P3 hr,P4 hl] at a;subst a;exact ⟨fun _=>rfl,fun h=>absurd h (by decide)⟩
     ·rw [P3 hd,P3 hr,P3 hl,P4 (decide_eq_false hm)] at a;subst a;exact ⟨fun _=>rfl,fun h=>absurd h (by decide)⟩
     ·rw [P3 hd,P3 hr,P3 hl,P3 (by rw [decide_eq_true hm];decide)] at a;subst a;exact ⟨fun h=>absurd rfl h,fun _=>he3.elim (fun h=>.inr (.inr ⟨k4,h⟩)) .inl⟩
    ·rw [P3 k4] at a;subst a;exact ⟨fun h=>absurd rfl h,fun _=>.inl (d56 (by omega))⟩
def ZcM {a b:Int} (h:P0 .neq a b=Xc):a≠b:=by simpa only [CQ] using h
def Zqn {a b:Int} (h:a≠b):P0 .neq a b=Xc:=by simpa only [CQ] using h
def YQ {a b:Int} (h:a=b):P0 .eql a b=Xc:=by simpa only [CQ] using h
def Zj1 (k:Int) (q:Nat):Xv q [I 0,I 0,I 0,AV.slice Xb 3 E0,I 0,I 0,I 0,I 0,I 0,I 0,B Xb,I 0,I 0,I 0,I 0]=(Vj (([] : List Zk).take 0) k q).map VG:=by
 apply UO;intro i;rw [Xp,ZbO,T0];split<;>rfl
structure Sp where
 k:Int
 w0:Int
 w1:Int
 w2:Int
 w3:Int
 w4:Int
 w5:Int
 w6:Int
 w7:Int
 w8:Int
def spc (s:Sp):List AV:=[I s.k,I s.w0,I s.w1,I s.w2,I s.w3,I s.w4,I s.w5,I s.w6,I s.w7,I s.w8]
def Zjd {γ:Type} {l:List Sp} {i:Nat} (h:i < l.length) (f:(Int×Int×Int×Int×Int×Int×Int×Int×Int×Int)→Option γ):Zn (l.map spc) (i:Int) [.int .i64,.int .i64,.int .i64,.int .i64,.int .i64,.int .i64,.int .i64,.int .i64,.int .i64,.int .i64] f=f (l[i].k,l[i].w0,l[i].w1,l[i].w2,l[i].w3,l[i].w4,l[i].w5,l[i].w6,l[i].w7,l[i].w8):=
 YD (f:=spc) (sh:=[.int .i64,.int .i64,.int .i64,.int .i64,.int .i64,.int .i64,.int .i64,.int .i64,.int .i64,.int .i64]) (v:=fun s=>(s.k,s.w0,s.w1,s.w2,s.w3,s.w4,s.w5,s.w6,s.w7,s.w8)) (fun _=>rfl) h f
def ZtM:Tryz.prog.cellsOf 37=10:=by kernel_rfl
def ZyN {d:Nat} {cs:List AV} (h:TyR Tryz.prog (d+3) 37 cs):∃ s:Sp,cs=spc s:=by
 rw [TyR] at h;simp only [Tryz.underlying37] at h;obtain ⟨e,rfl,g,f⟩:=h
 obtain ⟨b,c,rfl⟩:∃ b c,e = [b,c]:=by
  match e,g with
  | [b, c], _ => exact ⟨b, c, rfl⟩
 obtain ⟨a,rfl⟩:=VL (f 0 _ _ rfl rfl);obtain ⟨i,j,k,l,m,n,o,p,q,rfl⟩:=Zrj (f 1 _ _ rfl rfl);exact ⟨⟨a,i,j,k,l,m,n,o,p,q⟩,rfl⟩
def Zls {x:AV} (h:Zdi Tryz.prog 12 22 x):∃ l:List Sp,x = .slice Xb 10 (l.map spc)∧l.length < 2^63:=by
 simp only [Zdi,Tryz.underlying22] at h;have b:=h.2;rw [TyR] at b;simp only [Tryz.underlying22,ZtM] at b;obtain ⟨xs,c,d,e⟩:=b;obtain ⟨l,rfl,i⟩:=Zg6 (f:=spc) (p:=fun _=>True) xs fun y g=>(ZyN (e y g)).elim fun a h=>⟨a,h,trivial⟩;exact ⟨l,by simpa using c,ZCj (by simpa using d)⟩
def ZuH (a b c:Int):Ztc a b c=Xa (Kq ⟨a,b,c⟩):=by
 rw [Zrr]
 repeat' split
 all_goals (refine congrArg Xa ?_;rw [Z6];simp only [Kq,CQ] at *; omega)
def ZAQ (a:Int):ZrP a=Xa Xb:=by
 rw [ZlT];simp [P0]
def ZB2 (a b:Int):ZvN a b=Xa (Zp1 a b):=by
 rw [Zrf];simp only [ZAQ,Xj,XQ,if_false];by_cases h1:a < b
 ·rw [P4 (by simp only [CQ];omega),Zp1,P4 h1]
 ·by_cases h2:b < a
  ·rw [P3 (by simp only [CQ];omega),P4 (by simp only [CQ];omega),Zp1,P3 h1,P4 h2]
  ·rw [P3 (by simp only [CQ];omega),P3 (by simp only [CQ];omega),Zp1,P3 h1,P3 h2]
def ZBU (x y z:Int):Zy4 (((E0++[[I x]])++[[I y]])++[[I z]])=Xa (WB x y z):=by
 obtain ⟨f,a⟩:=ZzO;have e:(((E0++[[I x]])++[[I y]])++[[I z]]) = [Zhl x,Zhl y,Zhl z]:=rfl;have b:P1 .add .i64 0 1=1:=by decide
 have c:P1 .add .i64 1 1=2:=by decide
 have d:P1 .add .i64 2 1=3:=by decide
 have g:(([Zhl x,Zhl y,Zhl z] : List (List AV)).length:Int)=3:=rfl;rw [Zso,e,a,g];rw [WY,P4 (by decide),JS (sh:=[.int .i64]) (cs:=Zhl x) (r:=x) _ (by decide) rfl rfl];by_cases hx:x=0
 ·rw [P3 (by simp only [CQ];omega),b,WY,P4 (by decide),JS (sh:=[.int .i64]) (cs:=Zhl y) (r:=y) _ (by decide) rfl rfl];by_cases hy:y=0
  ·rw [P3 (by simp only [CQ];omega),c,WY,P4 (by decide),JS (sh:=[.int .i64]) (cs:=Zhl z) (r:=z) _ (by decide) rfl rfl];by_cases hz:z=0
   ·rw [P3 (by simp only [CQ];omega),d,WY,P3 (by decide)];simp [WB,hx,hy,hz]
   ·rw [P4 (by simp only [CQ];omega)];simp [WB,hx,hy]
  ·rw [P4 (by simp only [CQ];omega)];simp [WB,hx,hy]
 ·rw [P4 (by simp only [CQ];omega)];simp [WB,hx]
def ZBd (a b c d e f:Int):ZyH a b c d e f=Xa (WB (Zp1 a d) (Zp1 b e) (Zp1 c f)):=by
 rw [Zr3];simp only [ZB2,Xj,ZBU]
def s57 (a b c d e f:Int):g57 a b c d e f=Xa (Zte a b c d e f):=by
 rw [ZtV,ZBd,Xj];refine congrArg Xa ?_;rw [Z6];simp only [Zte,CQ,Zp1,WB]
 repeat' split
 all_goals omega
def ZAN {l:List Id} (p:l.length < 2^63) (a b c:Int):∀ (j i d:Nat),l.length=i+j→j < d→∃ r,ZgY d (Zd l) a b c (l.length:Int) i=Xa r∧(0≤r↔(⟨a,b,c⟩:Id)∈l.drop i):=by
 intro j
 induction j with
 | zero =>
  intro i d h g;obtain ⟨f,rfl⟩:∃ f,d=f+1:=⟨d-1,by omega⟩;refine ⟨-1,by rw [ZgA,P3 (by simp only [CQ];omega)],?_⟩;rw [U2 (by omega)];simp
 | succ j ih =>
  intro i d h g;obtain ⟨f,rfl⟩:∃ f,d=f+1:=⟨d-1,by omega⟩;have k:i < l.length:=by omega
  have e:l[(i:Int).toNat]? = Xa l[i]:=by simp
  have m:P1 .add .i64 i 1=((i+1:Nat):Int):=by rw [JP (by omega) (by omega)];omega
  rw [ZgA,P4 (by simp only [CQ];omega),WF _ (by omega) e,m,Tj k];by_cases he:(⟨a,b,c⟩:Id)=l[i]
  ·refine ⟨i,?_,?_⟩
   ·rw [P4];rw [Kn];exact he
   ·rw [Xr];exact ⟨fun _=>.inl he,fun _=>by omega⟩
  ·obtain ⟨r,n,o⟩:=ih (i+1) f (by omega) (by omega);refine ⟨r,?_,?_⟩
   ·rw [P3,n];rw [Kn];exact he
   ·rw [o,Xr];simp [he]
def Zyf (l:List Id) (f:l.length < 2^63) (a b c:Int):Zxa (Zd l) a b c=Xa (l.contains ⟨a,b,c⟩):=by
 obtain ⟨r,g,e⟩:=ZAN f a b c l.length 0 ZG (by omega) (VN (by omega));rw [Zry,ZrS,Ja];have d:ZgY ZG (Zd l) a b c (l.length:Int) 0=Xa r:=g;rw [d,Xj];refine congrArg Xa ?_;rw [Z6];simp only [CQ,US];rw [U6] at e;exact e
def l83 (n:Yt) (l:n.q.length < 2^63):∀ (j i a:Nat),n.q.length=i+j→j < a→
  ZoO a n.id.c n.id.op n.id.k (Zd n.q) n.d.g n.d.t n.d.h n.d.j n.d.i n.d.f n.d.m (Zd n.q) (n.q.length:Int) i=Xa ((U3 i j).all (Vl n)):=by
 intro j
 induction j with
 | zero =>
  intro i a h d;obtain ⟨f,rfl⟩:∃ f,a=f+1:=⟨a-1,by omega⟩;rw [ZiJ,P3 (by simp only [CQ];omega)];rfl
 | succ j ih =>
  intro i a h d;obtain ⟨f,rfl⟩:∃ f,a=f+1:=⟨a-1,by omega⟩;have e:i < n.q.length:=by omega
  have b:n.q[(i:Int).toNat]? = Xa n.q[i]:=by simp
  have g:P1 .add .i64 i 1=((i+1:Nat):Int):=by rw [JP (by omega) (by omega)];omega
  have k:Vl n i=(Kq n.q[i]&&decide (n.q[i]≠n.id)&&!(n.q.take i).contains n.q[i]):=by
   unfold Vl;rw [Xm e]
  have c:(n.q.take i).length < 2^63:=by rw [Xu];omega
  rw [ZiJ,P4 (by simp only [CQ];omega),WF _ (by omega) b,g,List.range'_succ,UV,k];simp only [ZuH,Xj]
  cases h1:Kq n.q[i] with
  | false => simp
  | true =>
   rw [P3 (by simp)];by_cases h2:n.q[i]=n.id
   ·rw [P4 (by rw [Kn];exact h2)];simp [h2]
   ·rw [P3 (by rw [Kn];exact h2),Zu (by omega),Zu (by rw [Ja];omega),Ua,ZjA,Zyf _ c,Xj]
    cases h3:(n.q.take i).contains n.q[i] with
    | true => simp
    | false =>
     rw [P3 (by simp)];have:=ih (i+1) f (by omega) (by omega);rw [this];simp [h2]
def s83 (n:Yt) (a:n.q.length < 2^63):g83 n.id.c n.id.op n.id.k (Zd n.q) n.d.g n.d.t n.d.h n.d.j n.d.i n.d.f n.d.m=Xa (Jw n):=by
 rw [Zut];simp only [ZuH,Zy6,Xj,Ja];unfold Jw
 cases h1:Kq n.id with
 | false => simp [show (⟨n.id.c, n.id.op, n.id.k⟩ : Id) = n.id from rfl, h1]
 | true =>
  cases h2:J0 n.d with
  | false => simp [show (⟨n.id.c, n.id.op, n.id.k⟩ : Id) = n.id from rfl, h1, show (⟨n.d.g, n.d.t, n.d.h, n.d.j, n.d.i, n.d.f, n.d.m⟩ : Cap) = n.d from rfl, h2]
  | true =>
   rw [P3 (by simp),P3 (by simp)];by_cases h3:n.q.length≤8
   ·rw [P3 (by simp only [CQ];omega)];have:=l83 n a n.q.length 0 ZG (by omega) (VN (by omega));have e:(U3 0 n.q.length)=XK n.q.length:=(List.range_eq_range' ..).symm;rw [e] at this;refine this.trans ?_;simp [h3]
   ·rw [P4 (by simp only [CQ];omega)];simp [h3]
def ZA8 {a b c:Bool} (h:(a&&(b&&(c&&Xc)))=Xc):a=Xc∧b=Xc∧c=Xc:=by simpa using h
def ZO {γ:Type} {l:List Zk} {i:Nat} (h:i < l.length) (k:ShsT hs21→Option γ):Zn (l.map Zf) (i:Int) hs21 k=k (Yk l[i]):=Zz h k
def s55 (l:List Zk) (o:l.length < 1000) (i:Id) :
  Ret (fun r=>(r=(0,Xb)∧∀ e∈l,e.b.id≠i)∨∃ k,∃ h:k < l.length,r=((k:Int),Xc)∧l[k].b.id=i∧∀ j (c:j < l.length),j < k→l[j].b.id≠i) (g55 (l.map Zf) i.c i.op i.k):=by
 rw [ZtU,Xi];refine Zo (F:=fun k (_:Unit) z=>Zoy k i.c i.op i.k (l.map Zf) (l.length:Int) z) l.length (fun k _=>∀ j (c:j < l.length),j < k→l[j].b.id≠i) o (fun k j _ c d b=>?_) () (fun j _ h=>absurd h (UA j));refine Zi (Zpf ..) (Za (fun h=>?_) fun h=>Zc (.inl ⟨rfl,fun e f=>?_⟩))
 ·simp only [CQ] at h;have a:j < l.length:=by omega
  refine Zi (ZO a _) (Za (fun g=>Zc (.inr ⟨j,a,rfl,?_,d⟩)) fun g=>?_)
  ·obtain ⟨p,q,s⟩:=ZA8 g;simp only [Yk,d2,d4,d8,P2,d6,df,dg,dh,di,dj,dk,dl,CQ] at p q s
   cases hi:l[j].b.id;cases i;simp_all
  ·rw [Jd c o];refine b a () fun m n t=>?_;by_cases hmj':m=j
   ·subst hmj';intro f;apply g;simp [Yk,d2,d4,d8,P2,d6,df,dg,dh,di,dj,dk,dl,f,CQ]
   ·exact d m n (by omega)
 ·simp only [CQ] at h;obtain ⟨m,n,rfl⟩:=Ud.1 f;exact d m n (by omega)
def ZAi (l:List Zk) (a:l.length < 1000) (i:Id) (h:∀ e∈l,e.b.id≠i):g55 (l.map Zf) i.c i.op i.k=Xa (0,Xb):=by
 obtain ⟨r,e,⟨rfl,_⟩ | ⟨k,b,_,c,_⟩⟩:=s55 l a i
 ·exact e
 ·exact absurd c (h _ (XC b))
def ZAx (l:List Zk) (m:l.length < 1000) (n:l.Pairwise fun a b=>lte a b=Xc) (k:Nat) (d:k < l.length):g55 (l.map Zf) l[k].b.id.c l[k].b.id.op l[k].b.id.k=Xa ((k:Int),Xc):=by
 obtain ⟨r,e,⟨_,h⟩ | ⟨j,o,rfl,c,p⟩⟩:=s55 l m l[k].b.id
 ·exact absurd rfl (h _ (XC d))
 ·have f:∀ a b (i:a < l.length) (c:b < l.length),a < b→l[a].b.id≠l[b].b.id:=by
   intro a b i c g q;have:=UB.1 n a b i c g;rw [ZcB,q] at this;omega
  have:j=k:=by
   rcases Th j k with h | h | h
   ·exact absurd c (f j k o d h)
   ·exact h
   ·exact absurd rfl (p k d h)
  subst this;exact e
def ZBh (l:List Zk) (j:l.length < 1000) (c s:Int) (f:∀ e∈l,¬ (e.c=c∧e.r=s)):g56 (l.map Zf) c s=Xa (0,Xb):=by
 have g:Ret (fun r=>r=((0:Int),Xb)) (g56 (l.map Zf) c s):=by
  rw [ZqA,Xi];refine Zo (F:=fun k (_:Unit) z=>ZgD k c s (l.map Zf) (l.length:Int) z) l.length (fun _ _=>True) j (fun k i _ o _ b=>?_) () trivial;refine Zi (Zjm ..) (Za (fun h=>?_) fun _=>Zc rfl);simp only [CQ] at h;have a:i < l.length:=by omega
  have d:Ret (fun r=>r=((0:Int),Xb)) (ZgD k c s (l.map Zf) (l.length:Int) (P1 .add .i64 (i:Int) 1)):=by rw [Jd o j];exact b a () trivial
  refine Zi (ZO a _) (Za (fun m=>Za (fun n=>?_) fun _=>d) fun _=>d);simp only [Yk,CQ] at m n;exact (f _ (XC a) ⟨m,n⟩).elim
 obtain ⟨r,e,rfl⟩:=g;exact e
def ZBj (i j:Id):g57 i.c i.op i.k j.c j.op j.k=Xa (ZwN i j):=s57 ..
def s87 (x:LL) (h:x.length < 1000):g87 x=Xa x:=by
 rw [ZtF];have b:ZB E0 x 120:=Zj (by simp;omega) (by decide)
 cases x with
 | nil => simp [Zkn, Zl, b]
 | cons a x => simp [Zkn, Zl, b]
def s45 (l:List Zk) (h:Kj l) (c:l.length < 1000):g45 (l.map Zf)=Xa (l.map Zf):=by
 have d:Ret (fun r=>r=l.map Zf) (g45 (l.map Zf)):=by
  rw [Ztq];refine Zb (s87 _ (by simpa using c)) ?_;rw [Xi];refine Zo (F:=fun k (s:LL) i=>Zpg k s (l.length:Int) i) l.length (fun _ s=>s=l.map Zf) c (fun k i s m n b=>?_) (l.map Zf) rfl;subst n;refine Zi (Zpp ..) (Za (fun h=>?_) fun _=>Zc rfl);simp only [CQ] at h;have a:i < l.length:=by omega
  have f:(0:Int)≤(i:Int):=Int.natCast_nonneg i;have g:(i:Int) < ((l.map Zf).length:Int):=by rw [Xi];omega
  have o:=Kj.q ‹Kj l› l[i] (XC a);refine Zg f (Zg g (Zi (ZO a _) (Zb (s58 l[i].b (by omega)) (Zg f (Zg g (Zg f (Zg g ?_)))))));rw [Jd m c];refine b a _ (ZpJ Zf l i 2 _ fun x j=>?_);rw [Xm a,Xf] at j;subst j;rfl
 obtain ⟨r,e,rfl⟩:=d;exact e
def ZpO (l:List Zk) (x:Zk):Nat:=JL (fun f=>lte x f) l
def Va (l:List Zk) (x:Zk):List Zk:=l.take (ZpO l x)++x::l.drop (ZpO l x)
def Zdo {a:Type} (q:a→Bool) (l:List a) {i:Nat} (h:i < l.length) (b:q l[i]=Xc) (c:∀ j (e:j < l.length),j < i→q l[j]=Xb):JL q l=i:=by
 have d:=Y0 q l;rcases Th (JL q l) i with hh | hh | hh
 ·have:=KX q l (by omega);rw [c _ (by omega) hh] at this
  cases this
 ·exact hh
 ·have:=KL q l i h hh;rw [b] at this
  cases this
def ZeT {a:Type} (q:a→Bool) (l:List a) (h:∀ j (c:j < l.length),q l[j]=Xb):JL q l=l.length:=by
 have b:=Y0 q l;rcases XS (JL q l) l.length with hh | hh
 ·have:=KX q l hh;rw [h _ hh] at this
  cases this
 ·omega
def s20 (l:List Zk) (h:Kj l) (w:l.length < 900) (x:Zk) (y:x.b.q.length≤20) (q:∀ e∈l,e.b.id≠x.b.id) (s:∀ e∈l,¬ (e.c=x.c∧e.r=x.r)) :
  g20 (l.map Zf) x.c x.r x.b.id.c x.b.id.op x.b.id.k (Zd x.b.q) x.b.d.g x.b.d.t x.b.d.h x.b.d.j x.b.d.i x.b.d.f x.b.d.m=Xa ((Va l x).map Zf,Xc):=by
 have b:∀ (j:Nat),j≤l.length→g59 (l.map Zf) (j:Int) (E0++[Zf x])=Xa ((l.take j++x::l.drop j).map Zf):=by
  intro j d;rw [ZuF];unfold Zzp;rw [Zu (Int.natCast_nonneg j),Zu (by rw [Xi];omega),Zu (by simp),Zu (Zj (by simp;omega) (by decide))];simp [Um,Uq]
 have f:Ret (fun r=>r=((Va l x).map Zf,Xc)) (g20 (l.map Zf) x.c x.r x.b.id.c x.b.id.op x.b.id.k (Zd x.b.q) x.b.d.g x.b.d.t x.b.d.h x.b.d.j x.b.d.i x.b.d.f x.b.d.m):=by
  rw [Zqa];refine Zb (ZAi l (by omega) x.b.id q) (Zb (ZBh l (by omega) _ _ s) (Za (fun h=>by cases h) fun _=>Za (fun h=>by cases h) fun _=>?_));rw [Xi];refine Zo (F:=fun k (_:Unit) i=>Zoi k (l.map Zf) x.c x.r x.b.id.c x.b.id.op x.b.id.k (Zd x.b.q) x.b.d.g x.b.d.t x.b.d.h x.b.d.j x.b.d.i x.b.d.f x.b.d.m (l.length:Int) (l.map Zf) (l.length:Int) i) l.length (fun i _=>∀ j (d:j < l.length),j < i→lte x l[j]=Xb) (by omega) (fun k i _ t g c=>?_) () (fun j _ h=>absurd h (UA j));refine Zi (Zor ..) (Za (fun n=>?_) fun n=>?_)
  ·simp only [CQ] at n;have a:i < l.length:=by omega
   refine Zi (ZO a _) (Zb (ZBj x.b.id l[i].b.id) (Za (fun o=>?_) fun o=>?_))
   ·have p:ZpO l x=i:=Zdo _ l a o g;refine Zb (s45 l h (by omega)) (Zb (s58 x.b (by omega)) (Zb (b i (by omega)) (Zc ?_)));rw [Va,p]
   ·rw [Jd t (by omega)];refine c a () fun m u v=>?_;by_cases hmi':m=i
    ·subst hmi';simpa [lte] using o
    ·exact g m u (by omega)
  ·simp only [CQ] at n;have p:ZpO l x=l.length:=ZeT _ l fun j d=>g j d (by omega);refine Zb (s45 l h (by omega)) (Zb (s58 x.b (by omega)) (Zb (b l.length (Xt _)) (Zc ?_)));rw [Va,p]
 obtain ⟨r,e,rfl⟩:=f;exact e
def s47 (l:List Zk) (h:Kj l) (j:l.length < 900) (c:l.Pairwise fun a b=>lte a b=Xc) (k:Nat) (d:k < l.length) (i:Id) (f:i=l[k].b.id):g47 (l.map Zf) i.c i.op i.k=Xa ((l.take k++l.drop (k+1)).map Zf,Xc):=by
 subst f;have e:P1 .add .i64 (k:Int) 1=((k+1:Nat):Int):=Jd (n:=900) (by omega) (by omega)
 have g:g94 (l.map Zf) (k:Int) ((k+1:Nat):Int)=Xa ((l.take k++l.drop (k+1)).map Zf):=by
  rw [Zwf];unfold ZqB;rw [Zu (Int.natCast_nonneg k),Zu (by omega),Zu (by rw [Xi];omega)];simp [Um,Uq]
 rw [ZvY,ZAx l (by omega) c k d];simp only [Xj,Ti,XQ,if_false];rw [s45 l h (by omega),Xj,e,g];rfl
def ZrY (l:List Zk) (x:Zk):(Va l x).length=l.length+1:=by
 have a:ZpO l x≤l.length:=Y0 _ _;simp [Va,Xu];omega
def ZnY (l:List Zk) (x:Zk) (b:∀ e∈l,e.b.id≠x.b.id) (c:∀ e∈l,¬ (e.c=x.c∧e.r=x.r)):Zp9 l x (Va l x):=by
 refine ⟨ZpO l x,Y0 _ _,fun j d h=>KL _ l j d h,fun h=>KX (fun f=>lte x f) l h,?_,?_,by simp [Va]⟩
 ·rw [UC];intro e a;simpa [idE] using b e a
 ·rw [UC];intro e a;have:=c e a;simp only [plE,Xk,P5];exact this
def oT (a b:LL) (r:Req) (p:Int) (w pa c:LL):Qt15:=(0,262144,16,Xb,a,b,r.id.c,r.id.op,r.id.k,r.a.g,r.a.r,r.a.p,r.a.c,r.a.v,r.a.o,r.a.h,r.a.f,r.a.l,r.a.n,r.a.u,r.a.w,r.s,r.i,r.e.id.c,r.e.id.op,r.e.id.k,(Zd r.e.q),r.e.d.g,r.e.d.t,r.e.d.h,r.e.d.j,r.e.d.i,r.e.d.f,r.e.d.m,p,w,pa,c)
def mM (k d b:Int) (i:Id) (c:Int) (e:Bool) (a:LL):List AV:=[I k,I 0,I 0,I d,I 0,I 0,I b,I i.c,I i.op,I i.k,I c,B e]++Xv 20 (I 0)++[.slice Xb 3 E0]++Xv 6 (I 0)++[B Xb,.slice Xb 3 E0,.slice Xb 11 a,.slice Xb 1 E0,.slice Xb 2 E0,I 0,I 0,.slice Xb 1 E0,.slice Xb 1 E0,.slice Xb 15 E0,.slice Xb 28 E0,.slice Xb 4 E0,.slice Xb 2 E0,.slice Xb 13 E0,.slice Xb 3 E0,I 0,I 0,.slice Xb 1 E0,.slice Xb 1 E0,.slice Xb 15 E0,.slice Xb 28 E0,.slice Xb 4 E0,.slice Xb 2 E0,.slice Xb 13 E0,.slice Xb 3 E0,B Xb,I 0,.slice Xb 1 E0,.slice Xb 1 E0,.slice Xb 15 E0,.slice Xb 28 E0,.slice Xb 4 E0,.slice Xb 2 E0,.slice Xb 13 E0,.slice Xb 3 E0]
def s48 (c d:LL) (r:Req) (p:Int) (w pa e:LL) (b:Int) (f:Bool) (a:LL):g48 0 262144 16 Xb c d r.id.c r.id.op r.id.k r.a.g r.a.r r.a.p r.a.c r.a.v r.a.o r.a.h r.a.f r.a.l r.a.n r.a.u r.a.w r.s r.i r.e.id.c r.e.id.op r.e.id.k (Zd r.e.q) r.e.d.g r.e.d.t r.e.d.h r.e.d.j r.e.d.i r.e.d.f r.e.d.m p w pa e b f a=Xa ([mM 2 r.id.c 0 r.id b f a],oT c d r 5 E0 pa e):=by
 rw [Zv3,ZmW];rfl
def Zxv (f:List Zk) (m:f.length < 900) (j:f.Pairwise fun a b=>lte a b=Xc) (k:Nat) (c:k < f.length) (d:LL) (r:Req) (p:Int) (w pa g:LL) (l:r.e.id=f[k].b.id) (n:r.id.c=f[k].c) (o:r.a.r=f[k].r):Zs6 0 262144 16 Xb (f.map Zf) d r.id.c r.id.op r.id.k r.a.g r.a.r r.a.p r.a.c r.a.v r.a.o r.a.h r.a.f r.a.l r.a.n r.a.u r.a.w r.s r.i r.e.id.c r.e.id.op r.e.id.k (Zd r.e.q) r.e.d.g r.e.d.t r.e.d.h r.e.d.j r.e.d.i r.e.d.f r.e.d.m p w pa g=Xa (f[k].b.id.c,f[k].b.id.op,f[k].b.id.k,(Zd f[k].b.q),f[k].b.d.g,f[k].b.d.t,f[k].b.d.h,f[k].b.d.j,f[k].b.d.i,f[k].b.d.f,f[k].b.d.m,Xc,0,262144,16,Xb,(f.map Zf),d,r.id.c,r.id.op,r.id.k,r.a.g,r.a.r,r.a.p,r.a.c,r.a.v,r.a.o,r.a.h,r.a.f,r.a.l,r.a.n,r.a.u,r.a.w,r.s,r.i,r.e.id.c,r.e.id.op,r.e.id.k,(Zd r.e.q),r.e.d.g,r.e.d.t,r.e.d.h,r.e.d.j,r.e.d.i,r.e.d.f,r.e.d.m,p,w,pa,g):=by
 have i:Ret (fun x=>x=((f[k].b.id.c,f[k].b.id.op,f[k].b.id.k,(Zd f[k].b.q),f[k].b.d.g,f[k].b.d.t,f[k].b.d.h,f[k].b.d.j,f[k].b.d.i,f[k].b.d.f,f[k].b.d.m,Xc,0,262144,16,Xb,(f.map Zf),d,r.id.c,r.id.op,r.id.k,r.a.g,r.a.r,r.a.p,r.a.c,r.a.v,r.a.o,r.a.h,r.a.f,r.a.l,r.a.n,r.a.u,r.a.w,r.s,r.i,r.e.id.c,r.e.id.op,r.e.id.k,(Zd r.e.q),r.e.d.g,r.e.d.t,r.e.d.h,r.e.d.j,r.e.d.i,r.e.d.f,r.e.d.m,p,w,pa,g):Qt10)) (Zs6 0 262144 16 Xb (f.map Zf) d r.id.c r.id.op r.id.k r.a.g r.a.r r.a.p r.a.c r.a.v r.a.o r.a.h r.a.f r.a.l r.a.n r.a.u r.a.w r.s r.i r.e.id.c r.e.id.op r.e.id.k (Zd r.e.q) r.e.d.g r.e.d.t r.e.d.h r.e.d.j r.e.d.i r.e.d.f r.e.d.m p w pa g):=by
  rw [ZsU];have e:=ZAx f (by omega) j k c;rw [← l] at e;refine Zb e (Za (fun h=>by cases h) fun _=>Zi (ZO c _) (Za (fun h=>?_) fun _=>Zi (ZO c _) (Za (fun h=>?_) fun _=>Zi (ZO c _) (Zc rfl))))
  ·simp only [Yk,CQ] at h;omega
  ·simp only [Yk,CQ] at h;omega
 obtain ⟨r,e,rfl⟩:=i;exact e
def ZAj (n:Yt) (b:Jw n=Xc) (i:Id) (d:Kq i=Xc) (c:Cap) (f:J0 c=Xc) (g:i≠n.id) (j:i∉n.q) (k:n.q.length≠8) :
  ZuN n.id.c n.id.op n.id.k (Zd n.q) n.d.g n.d.t n.d.h n.d.j n.d.i n.d.f n.d.m i.c i.op i.k c.g c.t c.h c.j c.i c.f c.m=Xa (i.c,i.op,i.k,Zd (n.q++[n.id]),c.g,c.t,c.h,c.j,c.i,c.f,c.m,0):=by
 have l:=(Z4 b).2.2.1;have e206:Zti n.id.c n.id.op n.id.k (Zd n.q) n.d.g n.d.t n.d.h n.d.j n.d.i n.d.f n.d.m i.c i.op i.k=Xa (n.q.contains i):=by rw [Zng,Zyf _ (by omega)];rfl
 have a:Ret (fun x=>x=((i.c,i.op,i.k,Zd (n.q++[n.id]),c.g,c.t,c.h,c.j,c.i,c.f,c.m,0):Qt32)) (ZuN n.id.c n.id.op n.id.k (Zd n.q) n.d.g n.d.t n.d.h n.d.j n.d.i n.d.f n.d.m i.c i.op i.k c.g c.t c.h c.j c.i c.f c.m):=by
  rw [ZqG];refine Zb (s83 n (by omega)) (Za (fun h=>by rw [b] at h;cases h) fun _=>Zb (ZuH ..) (Za (fun h=>?_) fun _=>Zb (Zy6 ..) (Za (fun h=>?_) fun _=>Za (fun h=>?_) fun _=>Zb e206 (Za (fun h=>?_) fun _=>Za (fun h=>?_) fun _=>Zb (Zz9 n.q (by omega)) (Zg (Zj (by simp [Zd];omega) (by decide)) (Zc ?_))))))
  ·rw [show (⟨i.c,i.op,i.k⟩:Id)=i from rfl,d] at h;cases h
  ·rw [show (⟨c.g,c.t,c.h,c.j,c.i,c.f,c.m⟩:Cap)=c from rfl,f] at h;cases h
  ·rw [Kn] at h;exact absurd h g
  ·rw [US] at h;exact absurd h j
  ·exfalso;simp only [CQ,Ja] at h;omega
  ·simp [Zd,idc]
 obtain ⟨r,e,rfl⟩:=a;exact e
def KW (r:Req) (n:Yt) (t:Int):Zk:=⟨t,r.a.p,Ji n r.id { n.d with j:=P1 .and .i64 n.d.j r.a.v }⟩
def ZxB (f:List Zk) (j:f.length < 900) (l:f.Pairwise fun a b=>lte a b=Xc) (k:Nat) (m:k < f.length) (c:LL) (r:Req) (p:Int) (w pa d:LL) (n:r.e.id=f[k].b.id) (o:r.id.c=f[k].c) (q:r.a.r=f[k].r) (i:Jw f[k].b=Xc) (s:Kq r.id=Xc) (u:r.id≠f[k].b.id) (v:r.id∉f[k].b.q) (z:0≤r.a.p∧r.a.p < 64) (t:Int) (y:f[k].b.q.length≠8) :
  Ztf 0 262144 16 Xb (f.map Zf) c r.id.c r.id.op r.id.k r.a.g r.a.r r.a.p r.a.c r.a.v r.a.o r.a.h r.a.f r.a.l r.a.n r.a.u r.a.w r.s r.i r.e.id.c r.e.id.op r.e.id.k (Zd r.e.q) r.e.d.g r.e.d.t r.e.d.h r.e.d.j r.e.d.i r.e.d.f r.e.d.m p w pa d t=Xa ([KW r f[k].b t].map Zf,0,0,262144,16,Xb,(f.map Zf),c,r.id.c,r.id.op,r.id.k,r.a.g,r.a.r,r.a.p,r.a.c,r.a.v,r.a.o,r.a.h,r.a.f,r.a.l,r.a.n,r.a.u,r.a.w,r.s,r.i,r.e.id.c,r.e.id.op,r.e.id.k,(Zd r.e.q),r.e.d.g,r.e.d.t,r.e.d.h,r.e.d.j,r.e.d.i,r.e.d.f,r.e.d.m,p,w,pa,d):=by
 have g:Ret (fun x=>x=(([KW r f[k].b t].map Zf,0,0,262144,16,Xb,(f.map Zf),c,r.id.c,r.id.op,r.id.k,r.a.g,r.a.r,r.a.p,r.a.c,r.a.v,r.a.o,r.a.h,r.a.f,r.a.l,r.a.n,r.a.u,r.a.w,r.s,r.i,r.e.id.c,r.e.id.op,r.e.id.k,(Zd r.e.q),r.e.d.g,r.e.d.t,r.e.d.h,r.e.d.j,r.e.d.i,r.e.d.f,r.e.d.m,p,w,pa,d):Qt11)) (Ztf 0 262144 16 Xb (f.map Zf) c r.id.c r.id.op r.id.k r.a.g r.a.r r.a.p r.a.c r.a.v r.a.o r.a.h r.a.f r.a.l r.a.n r.a.u r.a.w r.s r.i r.e.id.c r.e.id.op r.e.id.k (Zd r.e.q) r.e.d.g r.e.d.t r.e.d.h r.e.d.j r.e.d.i r.e.d.f r.e.d.m p w pa d t):=by
  rw [ZqQ];refine Za (fun h=>?_) fun _=>Za (fun h=>?_) fun _=>Zb (Zxv f j l k m c r p w pa d n o q) (Za (fun h=>by cases h) fun _=>Zb (ZrU ..) (Zb (ZAj f[k].b i r.id s { f[k].b.d with j:=P1 .and .i64 f[k].b.d.j r.a.v } (ZkW (Z4 i).2.1 _) u v y) (Za (fun h=>?_) fun _=>Zc rfl)))
  ·simp only [CQ] at h;omega
  ·simp only [CQ] at h;omega
  ·exfalso;simp only [CQ] at h;omega
 obtain ⟨r,e,rfl⟩:=g;exact e
def ZBp (f:List Zk) (n:Kj f) (o:f.length < 900) (a:LL) (r:Req) (p:Int) (w pa b:LL) (x:Zk) (q:x.b.q.length≤20) (t:∀ e∈f,e.b.id≠x.b.id) (u:∀ e∈f,¬ (e.c=x.c∧e.r=x.r)) :
  ZpL 0 262144 16 Xb (f.map Zf) a r.id.c r.id.op r.id.k r.a.g r.a.r r.a.p r.a.c r.a.v r.a.o r.a.h r.a.f r.a.l r.a.n r.a.u r.a.w r.s r.i r.e.id.c r.e.id.op r.e.id.k (Zd r.e.q) r.e.d.g r.e.d.t r.e.d.h r.e.d.j r.e.d.i r.e.d.f r.e.d.m p w pa b ([x].map Zf)=Xa (Xc,oT ((Va f x).map Zf) a r p w pa b):=by
 have e:=s20 f n o x q t u
 have d:Ret (fun v=>v=(Xc,oT ((Va f x).map Zf) a r p w pa b)) (ZpL 0 262144 16 Xb (f.map Zf) a r.id.c r.id.op r.id.k r.a.g r.a.r r.a.p r.a.c r.a.v r.a.o r.a.h r.a.f r.a.l r.a.n r.a.u r.a.w r.s r.i r.e.id.c r.e.id.op r.e.id.k (Zd r.e.q) r.e.d.g r.e.d.t r.e.d.h r.e.d.j r.e.d.i r.e.d.f r.e.d.m p w pa b ([x].map Zf)):=by
  rw [ZhA];refine Zo (F:=fun k (s:LL) i=>Zd8 k 0 262144 16 Xb (f.map Zf) a r.id.c r.id.op r.id.k r.a.g r.a.r r.a.p r.a.c r.a.v r.a.o r.a.h r.a.f r.a.l r.a.n r.a.u r.a.w r.s r.i r.e.id.c r.e.id.op r.e.id.k (Zd r.e.q) r.e.d.g r.e.d.t r.e.d.h r.e.d.j r.e.d.i r.e.d.f r.e.d.m p w pa b s ([x].map Zf) (([x].map Zf).length:Int) i) 1 (fun i s=>(i=0→s=f.map Zf)∧(1≤i→s=(Va f x).map Zf)) (by omega) (fun k i s y m c=>?_) (f.map Zf) ⟨fun _=>rfl,fun h=>by omega⟩;refine Zi (Zcw ..) (Za (fun h=>?_) fun h=>?_)
  ·have g:i=0:=by simp only [CQ,Xi,TO] at h;omega
   subst g;rw [m.1 rfl];refine Zi (ZO (l:=[x]) (i:=0) (by simp) _) (Zb e (Za (fun h=>by cases h) fun _=>?_));exact c (by omega) _ ⟨fun h=>by omega,fun _=>rfl⟩
  ·have j:1≤i:=by simp only [CQ,Xi,TO] at h;omega
   rw [m.2 j];exact Zc rfl
 obtain ⟨r,e,rfl⟩:=d;exact e
def Zy0 (f:List Zk) (o:f.length < 900) (s:f.Pairwise fun a b=>lte a b=Xc) (k:Nat) (t:k < f.length) (c:LL) (r:Req) (p:Int) (w pa d:LL) (u:r.e.id=f[k].b.id) (v:r.id.c=f[k].c) (y:r.a.r=f[k].r) (z:Kj f) (q:Jw f[k].b=Xc) (A:Kq r.id=Xc) (C:r.id≠f[k].b.id) (D:r.id∉f[k].b.q) (E:0≤r.a.p∧r.a.p < 64) (H:0≤r.a.c∧r.a.c < 32) (G:f[k].b.q.length≠8)
  (g:∀ e∈f,e.b.id≠r.id) (j:∀ e∈f,¬ (e.c=r.a.c∧e.r=r.a.p)) :
  ZsS 0 262144 16 Xb (f.map Zf) c r.id.c r.id.op r.id.k r.a.g r.a.r r.a.p r.a.c r.a.v r.a.o r.a.h r.a.f r.a.l r.a.n r.a.u r.a.w r.s r.i r.e.id.c r.e.id.op r.e.id.k (Zd r.e.q) r.e.d.g r.e.d.t r.e.d.h r.e.d.j r.e.d.i r.e.d.f r.e.d.m p w pa d=Xa ([mM 4 r.a.c r.a.p r.id 0 Xb [Wd (KW r f[k].b r.a.c).b]],oT ((Va f (KW r f[k].b r.a.c)).map Zf) c r 1 [[I r.a.c]] pa d):=by
 have J:=(Z4 q).2.2.1;have m:(KW r f[k].b r.a.c).b.q.length≤20:=by simp [KW,Ji];omega
 have n:Ret (fun x=>x=(([mM 4 r.a.c r.a.p r.id 0 Xb [Wd (KW r f[k].b r.a.c).b]],oT ((Va f (KW r f[k].b r.a.c)).map Zf) c r 1 [[I r.a.c]] pa d):Qt14)) (ZsS 0 262144 16 Xb (f.map Zf) c r.id.c r.id.op r.id.k r.a.g r.a.r r.a.p r.a.c r.a.v r.a.o r.a.h r.a.f r.a.l r.a.n r.a.u r.a.w r.s r.i r.e.id.c r.e.id.op r.e.id.k (Zd r.e.q) r.e.d.g r.e.d.t r.e.d.h r.e.d.j r.e.d.i r.e.d.f r.e.d.m p w pa d):=by
  rw [ZlX];refine Za (fun h=>?_) fun _=>Za (fun h=>?_) fun _=>Zb (ZxB f o s k t c r p w pa d u v y q A C D E r.a.c G) (Za (fun _=>Zb (ZBp f z o c r p w pa d (KW r f[k].b r.a.c) m g j) (Za (fun h=>by cases h) fun _=>Za (fun h=>?_) fun _=>Zb (ZmW ..) (Zi (ZO (l:=[KW r f[k].b r.a.c]) (i:=0) (by simp) _) (Zb (s58 (KW r f[k].b r.a.c).b (by omega)) (Zc rfl))))) fun h=>?_)
  ·simp only [CQ] at h;omega
  ·simp only [CQ] at h;omega
  ·exfalso;simp only [CQ] at h;omega
  ·exact (h (by simp only [CQ])).elim
 obtain ⟨r,e,rfl⟩:=n;exact e
def Zz3 (a b:LL) (r:Req) (f:r.a.g=4) (p:Int) (w pa c:LL) {R:Qt14} (h:ZsS 0 262144 16 Xb a b r.id.c r.id.op r.id.k r.a.g r.a.r r.a.p r.a.c r.a.v r.a.o r.a.h r.a.f r.a.l r.a.n r.a.u r.a.w r.s r.i r.e.id.c r.e.id.op r.e.id.k (Zd r.e.q) r.e.d.g r.e.d.t r.e.d.h r.e.d.j r.e.d.i r.e.d.f r.e.d.m p w pa c=Xa R):g85 0 262144 16 Xb a b r.id.c r.id.op r.id.k r.a.g r.a.r r.a.p r.a.c r.a.v r.a.o r.a.h r.a.f r.a.l r.a.n r.a.u r.a.w r.s r.i r.e.id.c r.e.id.op r.e.id.k (Zd r.e.q) r.e.d.g r.e.d.t r.e.d.h r.e.d.j r.e.d.i r.e.d.f r.e.d.m p w pa c=Xa R:=by
 have d:Ret (fun x=>x=R) (g85 0 262144 16 Xb a b r.id.c r.id.op r.id.k r.a.g r.a.r r.a.p r.a.c r.a.v r.a.o r.a.h r.a.f r.a.l r.a.n r.a.u r.a.w r.s r.i r.e.id.c r.e.id.op r.e.id.k (Zd r.e.q) r.e.d.g r.e.d.t r.e.d.h r.e.d.j r.e.d.i r.e.d.f r.e.d.m p w pa c):=by
  rw [ZdJ];refine Za (fun h=>?_) fun _=>Za (fun h=>?_) fun _=>Za (fun h=>?_) fun _=>Za (fun _=>Zb h (Zc rfl)) fun h=>?_
  ·exfalso;simp only [CQ] at h;omega
  ·exfalso;simp only [CQ] at h;omega
  ·exfalso;simp only [CQ] at h;omega
  ·exfalso;simp only [CQ] at h;omega
 obtain ⟨r,e,rfl⟩:=d;exact e
def ZBP (b:LL) (r:Req) {R:Qt14} (h:g85 0 262144 16 Xb b E0 r.id.c r.id.op r.id.k r.a.g r.a.r r.a.p r.a.c r.a.v r.a.o r.a.h r.a.f r.a.l r.a.n r.a.u r.a.w r.s r.i r.e.id.c r.e.id.op r.e.id.k (Zd r.e.q) r.e.d.g r.e.d.t r.e.d.h r.e.d.j r.e.d.i r.e.d.f r.e.d.m 0 E0 E0 E0=Xa R):g43 0 262144 16 Xb b ([r].map Zxp) 0 0 0 0 0 0 0 0 0 0 0 0 0 0 0 0 0 0 0 0 E0 0 0 0 0 0 0 Xb 0 E0 E0 E0=Xa R:=by
 have c:Ret (fun x=>x=R) (g43 0 262144 16 Xb b ([r].map Zxp) 0 0 0 0 0 0 0 0 0 0 0 0 0 0 0 0 0 0 0 0 E0 0 0 0 0 0 0 Xb 0 E0 E0 E0):=by
  rw [Zqr];refine Za (fun h=>?_) fun _=>Za (fun h=>?_) fun _=>?_
  ·exfalso;simp only [CQ] at h;omega
  ·exfalso;simp only [CQ,Xi,XO,Ui] at h;omega
  ·refine Zg (Uk _) (Zg (by simp only [Xi,XO];omega) (Zi (ZkX (l:=[r]) (i:=0) (by simp) _) ?_))
   have a:g84 ([r].map Zxp) 0 1=Xa E0:=by
    rw [ZvG];unfold ZqB;rw [Zu (Uk _),Zu (by decide),Zu (by simp)];rfl
   exact Zb a (Zb h (Zc rfl))
 obtain ⟨r,e,rfl⟩:=c;exact e
def s42 (r:Req) (h:r.e.q.length≤64):g42 r.id.c r.id.op r.id.k r.a.g r.a.r r.a.p r.a.c r.a.v r.a.o r.a.h r.a.f r.a.l r.a.n r.a.u r.a.w r.s r.i r.e.id.c r.e.id.op r.e.id.k (Zd r.e.q) r.e.d.g r.e.d.t r.e.d.h r.e.d.j r.e.d.i r.e.d.f r.e.d.m=Xa (ZAd r):=by
 rw [ZvE,s58 r.e h];rfl
def s39 (a:LL) (r:Req):Zjy 0 262144 16 Xb a E0 0 0 0 0 0 0 0 0 0 0 0 0 0 0 0 0 0 0 0 0 E0 0 0 0 0 0 0 Xb 0 E0 E0 E0 r.id.c r.id.op r.id.k r.a.g r.a.r r.a.p r.a.c r.a.v r.a.o r.a.h r.a.f r.a.l r.a.n r.a.u r.a.w r.s r.i r.e.id.c r.e.id.op r.e.id.k (Zd r.e.q) r.e.d.g r.e.d.t r.e.d.h r.e.d.j r.e.d.i r.e.d.f r.e.d.m=Xa (Xb,0,262144,16,Xb,a,E0,0,0,0,0,0,0,0,0,0,0,0,0,0,0,0,0,0,0,0,0,E0,0,0,0,0,0,0,Xb,0,E0,E0,E0,r.id.c,r.id.op,r.id.k,r.a.g,r.a.r,r.a.p,r.a.c,r.a.v,r.a.o,r.a.h,r.a.f,r.a.l,r.a.n,r.a.u,r.a.w,r.s,r.i,r.e.id.c,r.e.id.op,r.e.id.k,(Zd r.e.q),r.e.d.g,r.e.d.t,r.e.d.h,r.e.d.j,r.e.d.i,r.e.d.f,r.e.d.m):=by
 have b:Ret (fun x=>x=((Xb,0,262144,16,Xb,a,E0,0,0,0,0,0,0,0,0,0,0,0,0,0,0,0,0,0,0,0,0,E0,0,0,0,0,0,0,Xb,0,E0,E0,E0,r.id.c,r.id.op,r.id.k,r.a.g,r.a.r,r.a.p,r.a.c,r.a.v,r.a.o,r.a.h,r.a.f,r.a.l,r.a.n,r.a.u,r.a.w,r.s,r.i,r.e.id.c,r.e.id.op,r.e.id.k,(Zd r.e.q),r.e.d.g,r.e.d.t,r.e.d.h,r.e.d.j,r.e.d.i,r.e.d.f,r.e.d.m):Qt6)) (Zjy 0 262144 16 Xb a E0 0 0 0 0 0 0 0 0 0 0 0 0 0 0 0 0 0 0 0 0 E0 0 0 0 0 0 0 Xb 0 E0 E0 E0 r.id.c r.id.op r.id.k r.a.g r.a.r r.a.p r.a.c r.a.v r.a.o r.a.h r.a.f r.a.l r.a.n r.a.u r.a.w r.s r.i r.e.id.c r.e.id.op r.e.id.k (Zd r.e.q) r.e.d.g r.e.d.t r.e.d.h r.e.d.j r.e.d.i r.e.d.f r.e.d.m):=by
  rw [ZkR];refine Zh (Q:=fun x=>x=(((-1),0,262144,16,Xb,a,E0,0,0,0,0,0,0,0,0,0,0,0,0,0,0,0,0,0,0,0,0,E0,0,0,0,0,0,0,Xb,0,E0,E0,E0,r.id.c,r.id.op,r.id.k,r.a.g,r.a.r,r.a.p,r.a.c,r.a.v,r.a.o,r.a.h,r.a.f,r.a.l,r.a.n,r.a.u,r.a.w,r.s,r.i,r.e.id.c,r.e.id.op,r.e.id.k,(Zd r.e.q),r.e.d.g,r.e.d.t,r.e.d.h,r.e.d.j,r.e.d.i,r.e.d.f,r.e.d.m):Qt7)) ?_ fun x d=>by subst d;exact Zc rfl
  rw [Znu];refine Zo (F:=fun k (_:Unit) i=>Zbv k (Xg E0:Int) i 0 262144 16 Xb a E0 0 0 0 0 0 0 0 0 0 0 0 0 0 0 0 0 0 0 0 0 E0 0 0 0 0 0 0 Xb 0 E0 E0 E0 r.id.c r.id.op r.id.k r.a.g r.a.r r.a.p r.a.c r.a.v r.a.o r.a.h r.a.f r.a.l r.a.n r.a.u r.a.w r.s r.i r.e.id.c r.e.id.op r.e.id.k (Zd r.e.q) r.e.d.g r.e.d.t r.e.d.h r.e.d.j r.e.d.i r.e.d.f r.e.d.m) 0 (fun _ _=>True) (by omega) (fun k i _ f _ c=>?_) () trivial;refine Zi (ZhE ..) (Za (fun h=>?_) fun _=>Zc rfl);exfalso;simp only [CQ,Ui] at h;omega
 obtain ⟨r,e,rfl⟩:=b;exact e
def iT (a:LL):Qt15:=(0,262144,16,Xb,a,E0,0,0,0,0,0,0,0,0,0,0,0,0,0,0,0,0,0,0,0,0,E0,0,0,0,0,0,0,Xb,0,E0,E0,E0)
def Zda (l:List Int) (x:Int):Nat:=JL (fun y=>!decide (y < x)) l
def ZnH (l:List Int) (x:Int):List Int:=if l[Zda l x]? = Xa x then l else l.take (Zda l x)++x::l.drop (Zda l x)
def Zpu (l:List Int) (x z:Int):z∈ZnH l x↔z∈l∨z=x:=by
 unfold ZnH;split
 ·rename_i h;have:=Xo h;constructor
  ·exact .inl
  ·rintro (h | rfl)
   ·exact h
   ·exact this
 ·rw [Xq,Xr];constructor
  ·rintro (h | h | h)
   ·exact .inl (XL h)
   ·exact .inr h
   ·exact .inl (XR h)
  ·rintro (h | h)
   ·rw [← UH (Zda l x) l,Xq] at h;rcases h with h | h
    ·exact .inl h
    ·exact .inr (.inr h)
   ·exact .inr (.inl h)
def ZoQ (l:List Int) (x:Int) (h:l.Pairwise (· < ·)):(ZnH l x).Pairwise (· < ·):=by
 unfold ZnH;split
 ·exact h
 ·rename_i f;have r:Zda l x≤l.length:=Y0 _ _
  have g:∀ j (c:j < l.length),j < Zda l x→l[j] < x:=fun j c k=>by
   have:=KL _ l j c k;simpa using this
  have d:∀ j (c:j < l.length),Zda l x≤j→x < l[j]:=by
   intro j c m;have n:Zda l x < l.length:=by omega
   have s:=KX (fun y=>!decide (y < x)) l n
   have w:x≤l[Zda l x]:=by
    have e:(!decide (l[Zda l x] < x))=Xc:=s;simp at e;exact e
   have z:l[Zda l x]≠x:=fun o=>f (by rw [Xm n,o]);rcases Nat.eq_or_lt_of_le m with o | hlt'
   ·subst o;omega
   ·have:=UB.1 h (Zda l x) j n c hlt';omega
  refine T1.2 ⟨h.sublist (List.take_sublist _ _),Ta.2 ⟨fun y t=>?_,h.sublist (List.drop_sublist _ _)⟩,fun a u b p=>?_⟩
  ·obtain ⟨j,c,rfl⟩:=Ud.1 t;rw [TN];exact d _ _ (by omega)
  ·obtain ⟨i,v,rfl⟩:=Ud.1 u;rw [Xu] at v;rw [Tk];have q:=g i (by omega) (by omega);rcases Xr.1 p with rfl | p
   ·exact q
   ·obtain ⟨j,c,rfl⟩:=Ud.1 p;rw [TN];have:=d (Zda l x+j) (by rw [XV] at c;omega) (by omega);omega
def Zld {l m:List Int} (i:l.Nodup) (e:m.Pairwise (· < ·)) (h:∀ z,z∈l↔z∈m):l.mergeSort (fun a b=>decide (a≤b))=m:=by
 have j:∀ a b c:Int,decide (a≤b)=Xc→decide (b≤c)=Xc→decide (a≤c)=Xc:=fun a b c f g=>by simp only [P5] at *; omega
 have k:∀ a b:Int,(decide (a≤b)||decide (b≤a))=Xc:=fun a b=>by simp only [XX,P5];omega
 have d:m.Nodup:=e.imp fun h=>by omega
 refine List.Perm.eq_of_pairwise (le:=fun a b=>decide (a≤b)=Xc) (fun a b _ _ f g=>?_) (List.pairwise_mergeSort j k l) (e.imp fun h=>by simp only [P5];omega) ((List.mergeSort_perm l _).trans ((List.perm_ext_iff_of_nodup i d).2 h));simp only [P5] at f g;omega
def bl (f:List Zk) (i:Id):List Zk:=f.filter fun e=>e.b.q.contains i
def YI (b:List Zk) (c:Int):List Int:=b.foldl (fun p e=>ZnH p e.c) [c]
def ZcP (b:List Zk):∀ (p:List Int),p.Pairwise (· < ·)→(b.foldl (fun p e=>ZnH p e.c) p).Pairwise (· < ·):=by
 induction b with
 | nil => exact fun p h => h
 | cons e b ih => exact fun p h => ih _ (ZoQ p e.c h)
def Zg3 (b:List Zk):∀ (p:List Int) (z:Int),z∈b.foldl (fun p e=>ZnH p e.c) p↔z∈p∨∃ e∈b,e.c=z:=by
 induction b with
 | nil => intro p z; simp
 | cons e b ih =>
  intro p z;rw [Tm,ih,Zpu];constructor
  ·rintro ((h | h) | ⟨e',a,c⟩)
   ·exact .inl h
   ·exact .inr ⟨e,List.mem_cons_self ..,h.symm⟩
   ·exact .inr ⟨e',UD _ a,c⟩
  ·rintro (h | ⟨e',a,c⟩)
   ·exact .inl (.inl h)
   ·rcases Xr.1 a with rfl | a
    ·exact .inl (.inr c.symm)
    ·exact .inr ⟨e',a,c⟩
def Zc2 (M:LL) (n:Nat) (S:Int→Prop):Prop:=
 ∃ a:LL,M = [[.slice Xb 2 a]]∧(∀ b∈a,∃ (z:Int) (c:LL),b = [I z,.slice Xb 3 c]∧0≤z∧z < 32∧c.length≤n)∧(a.filterMap Z1).Nodup∧a.length≤n+1∧∀ z,z∈a.filterMap Z1↔S z
def ZlI (c:Int) (h:0≤c∧c < 32):Zc2 (KQ (E0++[[AV.slice Xb 2 E0]]) c 3 E0) 0 (· = c):=by
 refine ⟨[[I c,.slice Xb 3 []]],rfl,fun a b=>⟨c,[],XF.1 b,h.1,h.2,Xt _⟩,?_,Xt _,fun z=>?_⟩
 ·show [c].Nodup;simp
 ·show z∈[c]↔_;simp
def Zc2.any {M:LL} {n:Nat} {S:Int→Prop} (h:Zc2 M n S):Zbz .any M 0=Xc:=by
 obtain ⟨a,rfl,_⟩:=h;rfl
def Zc2.full {M:LL} {n:Nat} {S:Int→Prop} (h:Zc2 M n S):Zbz .full M 0=Xc:=by
 obtain ⟨a,rfl,_⟩:=h;rfl
def Zc2.at {M:LL} {n:Nat} {S:Int→Prop} (h:Zc2 M n S) (c:Int):Zbz .at (YW M c) c=Xc:=by
 obtain ⟨a,rfl,_⟩:=h;simp [Zbz,YW,KS,Zph]
def Zc2.keys {M:LL} {n:Nat} {S:Int→Prop} (h:Zc2 M n S) (i:n≤1000):Zbz .keys M 0=Xc:=by
 obtain ⟨a,rfl,c,_,j,_⟩:=h
 have d:a.all WC=Xc:=XE.2 fun b e=>by
  obtain ⟨z,f,rfl,k,l,_⟩:=c b e;have:WC [I z,.slice Xb 3 f]=(decide (-9223372036854775808≤z)&&decide (z≤9223372036854775807)):=rfl;rw [this];simp only [Xk,P5];omega
 have g:a.length≤1048576:=by omega
 simp [Zbz,d,g]
def Zc2.get {M:LL} {n:Nat} {S:Int→Prop} (h:Zc2 M n S) (c:Int):(J4 M c).length≤n:=by
 obtain ⟨b,rfl,d,_⟩:=h;unfold J4;split
 ·rename_i a e;obtain ⟨z,g,rfl,_,_,f⟩:=d a (UE e);exact f
 ·exact X7 _
def ZiE (a:LL) (c:Int) (v:AV):(Y1 a c v).filterMap Z1=if (a.any fun r=>Z1 r == Xa c)=Xc then a.filterMap Z1 else a.filterMap Z1++[c]:=by
 unfold Y1;split
 ·rw [List.filterMap_map];congr 1;funext r;show Z1 (if Z1 r == Xa c then [I c,v] else r)=Z1 r;split
  ·rename_i h;have b:Z1 r=Xa c:=by simpa using h
   rw [b];rfl
  ·rfl
 ·rw [List.filterMap_append];rfl
def Zc2.put {M:LL} {n:Nat} {S:Int→Prop} (h:Zc2 M n S) (c:Int) (q:0≤c∧c < 32) (g:LL) (v:g.length≤n+1):Zc2 (KQ (YW M c) c 3 g) (n+1) (fun z=>S z∨z=c):=by
 obtain ⟨d,rfl,w,s,H,o⟩:=h;have x:KQ (YW [[AV.slice Xb 2 d]] c) c 3 g = [[.slice Xb 2 (Y1 d c (.slice Xb 3 g))]]:=rfl
 have k:∀ f∈Y1 d c (.slice Xb 3 g),f∈d∨f = [I c,.slice Xb 3 g]:=by
  intro f e;unfold Y1 at e;split at e
  ·obtain ⟨y,p,rfl⟩:=Xs.1 e;by_cases j:(Z1 y == Xa c)=Xc
   ·rw [P4 j];exact .inr rfl
   ·rw [P3 j];exact .inl p
  ·rcases Xq.1 e with e | e
   ·exact .inl e
   ·exact .inr (XF.1 e)
 have t:(Y1 d c (.slice Xb 3 g)).length≤d.length+1:=by
  unfold Y1;split
  ·rw [Xi];omega
  ·rw [XD];simp
 have l:(d.any fun r=>Z1 r == Xa c)=Xc↔c∈d.filterMap Z1:=by
  rw [Ut,List.mem_filterMap];constructor
  ·rintro ⟨r,e,j⟩;exact ⟨r,e,by simpa using j⟩
  ·rintro ⟨r,e,j⟩;exact ⟨r,e,by simp [j]⟩
 refine ⟨_,x,fun f e=>?_,?_,by omega,fun z=>?_⟩
 ·rcases k f e with e | rfl
  ·obtain ⟨z,zs,A,C,D,J⟩:=w f e;exact ⟨z,zs,A,C,D,by omega⟩
  ·exact ⟨c,g,rfl,q.1,q.2,v⟩
 ·rw [ZiE];split
  ·exact s
  ·rename_i m;rw [l] at m;exact List.nodup_append.2 ⟨s,by simp,fun a E b G u=>m (by rw [XF.1 G] at u;exact u ▸ E)⟩
 ·rw [ZiE];split
  ·rename_i i;rw [l,o] at i;rw [o];exact ⟨.inl,fun h=>h.elim id fun h=>h ▸ i⟩
  ·rw [Xq,XF,o]
def Zc2.parts {M:LL} {n:Nat} {P:List Int} (h:Zc2 M n (·∈P)) (d:P.Pairwise (· < ·)):VR M=Ze P:=by
 obtain ⟨c,rfl,_,e,_,f⟩:=h;have:=Zld e d f;show ((c.filterMap Z1).mergeSort fun a b=>decide (a≤b)).map Zhl=P.map Zhl;rw [this]
def ZeA {a:Type} (q:a→Bool) (l:List a) {i:Nat} (h:i < l.length):(l.take (i+1)).filter q=(l.take i).filter q++if q l[i]=Xc then [l[i]] else []:=by
 rw [U8,Xm h,Option.toList_some,List.filter_append];congr 1
 cases hq:q l[i]<;>simp [List.filter,hq]
def e206 (e:Zk) (a:e.b.q.length≤20) (i:Id):Zti e.b.id.c e.b.id.op e.b.id.k (Zd e.b.q) e.b.d.g e.b.d.t e.b.d.h e.b.d.j e.b.d.i e.b.d.f e.b.d.m i.c i.op i.k=Xa (e.b.q.contains i):=by rw [Zng,Zyf _ (by omega)];rfl
def Zys (l:List Id) (o:l.length < 1000) (i:Id):ZpF (Zd l) i.c i.op i.k=Xa (l.contains i):=by
 have d:Ret (fun x=>x=l.contains i) (ZpF (Zd l) i.c i.op i.k):=by
  rw [ZlE];refine Zo (F:=fun k (_:Unit) z=>ZfJ k (Zd l) i.c i.op i.k z) l.length (fun k _=>∀ j (p:j < l.length),j < k→l[j]≠i) o (fun k j _ p q b=>?_) () (fun j _ h=>absurd h (UA j));refine Zi (ZbN ..) (Za (fun h=>?_) fun h=>Zc ?_)
  ·simp only [CQ,Ja] at h;have a:j < l.length:=by omega
   refine Zi (ZiL a _) (Za (fun c=>Zc ?_) fun c=>?_)
   ·rw [Kn] at c;have:l[j]=i:=c;exact (US.2 (this ▸ XC a)).symm
   ·rw [Jd p o];refine b a () fun m f s=>?_;by_cases hmj':m=j
    ·subst hmj';intro t;apply c;rw [Kn];exact t
    ·exact q m f (by omega)
  ·simp only [CQ,Ja] at h;symm;rw [List.contains_eq_mem,decide_eq_false_iff_not];intro f;obtain ⟨m,g,n⟩:=Ud.1 f;exact q m g (by omega) n
 obtain ⟨r,e,rfl⟩:=d;exact e
def Yh (b:List Zk):List Id:=b.map fun e=>e.b.id
def ZAJ (f:List Zk) (o:Kj f) (q:f.length < 900) (i:Id):Zxi (f.map Zf) i.c i.op i.k=Xa (Zd (Yh (bl f i))):=by
 have c:Ret (fun x=>x=Zd (Yh (bl f i))) (Zxi (f.map Zf) i.c i.op i.k):=by
  rw [ZqI,Xi];refine Zo (F:=fun k (s:LL) z=>ZgO k i.c i.op i.k s (f.map Zf) (f.length:Int) z) f.length (fun j s=>s=Zd (Yh (bl (f.take j) i))) (by omega) (fun k j s g l b=>?_) E0 rfl;refine Zi (ZlG ..) (Za (fun h=>?_) fun h=>Zc ?_)
  ·simp only [CQ] at h;have a:j < f.length:=by omega
   have p:=o.q f[j] (XC a);subst l
   have m:(Zd (Yh (bl (f.take j) i))).length≤900:=by
    rw [Ja,Yh,Xi];exact XN (U9 _ _) (by rw [Xu];omega)
   have n:=ZeA (fun e:Zk=>e.b.q.contains i) f a;refine Zi (ZO a _) (Zb (e206 f[j] p i) (Za (fun d=>Zg (Zj (by simp;omega) (by decide)) ?_) fun d=>?_))
   ·rw [Jd g (by omega)];refine b a _ ?_;show _=Zd (Yh ((f.take (j+1)).filter _));rw [n,P4 d];simp [Yh,bl,Zd,idc,Yk]
   ·rw [Jd g (by omega)];refine b a _ ?_;show _=Zd (Yh ((f.take (j+1)).filter _));rw [n,P3 d,UG];rfl
  ·simp only [CQ] at h;rw [l,Uc (by omega)]
 obtain ⟨r,e,rfl⟩:=c;exact e
def Zcq (l:List Int):(Ze l).length=l.length:=by simp [Ze]
def s98 (x:LL) (h:x.length < 1000):g98 x=Xa x:=by
 rw [Zvi];have b:ZB E0 x 8:=Zj (by simp;omega) (by decide)
 cases x with
 | nil => simp [Zkn, Zl, b]
 | cons a x => simp [Zkn, Zl, b]
def s50 (c d:LL) (r:Req) (p:Int) (w f:LL) (P:List Int) (o:P.length < 900) (a:Int):g50 0 262144 16 Xb c d r.id.c r.id.op r.id.k r.a.g r.a.r r.a.p r.a.c r.a.v r.a.o r.a.h r.a.f r.a.l r.a.n r.a.u r.a.w r.s r.i r.e.id.c r.e.id.op r.e.id.k (Zd r.e.q) r.e.d.g r.e.d.t r.e.d.h r.e.d.j r.e.d.i r.e.d.f r.e.d.m p w (Ze P) f a=Xa (P.map (fun z=>mM a z 0 r.id 0 Xb E0),oT c d r p (Ze P) (Ze P) f):=by
 have l:Ret (fun x=>x=((P.map (fun z=>mM a z 0 r.id 0 Xb E0),oT c d r p (Ze P) (Ze P) f):Qt14)) (g50 0 262144 16 Xb c d r.id.c r.id.op r.id.k r.a.g r.a.r r.a.p r.a.c r.a.v r.a.o r.a.h r.a.f r.a.l r.a.n r.a.u r.a.w r.s r.i r.e.id.c r.e.id.op r.e.id.k (Zd r.e.q) r.e.d.g r.e.d.t r.e.d.h r.e.d.j r.e.d.i r.e.d.f r.e.d.m p w (Ze P) f a):=by
  rw [Zuf,s98 _ (by rw [Zcq];omega)];simp only [Xj,Zcq];refine Zo (F:=fun k (s:LL) i=>Zpx k 0 262144 16 Xb c d r.id.c r.id.op r.id.k r.a.g r.a.r r.a.p r.a.c r.a.v r.a.o r.a.h r.a.f r.a.l r.a.n r.a.u r.a.w r.s r.i r.e.id.c r.e.id.op r.e.id.k (Zd r.e.q) r.e.d.g r.e.d.t r.e.d.h r.e.d.j r.e.d.i r.e.d.f r.e.d.m p (Ze P) (Ze P) f a s (Ze P) (P.length:Int) i) P.length (fun j s=>s=(P.take j).map (fun z=>mM a z 0 r.id 0 Xb E0)) (by omega) (fun k j s n m g=>?_) E0 rfl;refine Zi (ZoK ..) (Za (fun h=>?_) fun h=>Zc ?_)
  ·simp only [CQ] at h;have b:j < P.length:=by omega
   subst m;refine Zi (JI b _) (Zb (ZmW ..) (Zg (Zj (by simp;omega) (by decide)) ?_));rw [Jd n (by omega)];refine g b _ ?_;rw [U8,Xm b,Option.toList_some,List.map_append];rfl
  ·simp only [CQ] at h;rw [m,Uc (by omega)];rfl
 obtain ⟨r,e,rfl⟩:=l;exact e
def mI (k b:Int) (i:Id) (a:LL):List AV:=setCells (mM k b 0 i 0 Xb E0) 40 [.slice Xb 3 a]
def mV (k e b:Int) (i:Id) (c:Int) (f:Bool) (d a:LL):Qt4:=(k,0,0,e,0,0,b,i.c,i.op,i.k,c,f,0,0,0,0,0,0,0,0,0,0,0,0,0,0,0,0,0,0,0,0,E0,0,0,0,0,0,0,Xb,d,a,E0,E0,0,0,E0,E0,E0,E0,E0,E0,E0,E0,0,0,E0,E0,E0,E0,E0,E0,E0,E0,Xb,0,E0,E0,E0,E0,E0,E0,E0,E0)
def ofm (k d b:Int) (i:Id) (c:Int) (e:Bool) (a:LL):Zh6 hs0 (mM k d b i c e a)=Xa (mV k d b i c e E0 a):=rfl
def ofi (k b:Int) (i:Id) (a:LL):Zh6 hs0 (mI k b i a)=Xa (mV k b 0 i 0 Xb a E0):=rfl
def Zql {γ:Type} (k d b:Int) (i:Id) (c:Int) (e:Bool) (a:LL) (q:Qt4→Option γ):Zn [mM k d b i c e a] 0 hs0 q=q (mV k d b i c e E0 a):=@JS γ [mM k d b i c e a] 0 hs0 (mM k d b i c e a) (mV k d b i c e E0 a) q (Uk 0) rfl rfl
def Ztz (b c:LL) (r:Req) (p:Int) (w pa d:LL) (P:List Int) (v:P.length < 1000) (M:LL) (y:Zbz .any M 0=Xc) :
  Zed ZG 0 262144 16 Xb b c r.id.c r.id.op r.id.k r.a.g r.a.r r.a.p r.a.c r.a.v r.a.o r.a.h r.a.f r.a.l r.a.n r.a.u r.a.w r.s r.i r.e.id.c r.e.id.op r.e.id.k (Zd r.e.q) r.e.d.g r.e.d.t r.e.d.h r.e.d.j r.e.d.i r.e.d.f r.e.d.m p w pa d (P.map (fun z=>mM 6 z 0 r.id 0 Xb E0)) (Xg (P.map (fun z=>mM 6 z 0 r.id 0 Xb E0)):Int) 0 M=Xa (P.map (fun z=>mI 6 z r.id (J4 M z)),oT b c r p w pa d):=by
 have o:Ret (fun x=>x=((P.map (fun z=>mI 6 z r.id (J4 M z)),oT b c r p w pa d):Qt14)) (Zed ZG 0 262144 16 Xb b c r.id.c r.id.op r.id.k r.a.g r.a.r r.a.p r.a.c r.a.v r.a.o r.a.h r.a.f r.a.l r.a.n r.a.u r.a.w r.s r.i r.e.id.c r.e.id.op r.e.id.k (Zd r.e.q) r.e.d.g r.e.d.t r.e.d.h r.e.d.j r.e.d.i r.e.d.f r.e.d.m p w pa d (P.map (fun z=>mM 6 z 0 r.id 0 Xb E0)) (Xg (P.map (fun z=>mM 6 z 0 r.id 0 Xb E0)):Int) 0 M):=by
  rw [Xi];refine Zo (F:=fun k (s:LL) i=>Zed k 0 262144 16 Xb b c r.id.c r.id.op r.id.k r.a.g r.a.r r.a.p r.a.c r.a.v r.a.o r.a.h r.a.f r.a.l r.a.n r.a.u r.a.w r.s r.i r.e.id.c r.e.id.op r.e.id.k (Zd r.e.q) r.e.d.g r.e.d.t r.e.d.h r.e.d.j r.e.d.i r.e.d.f r.e.d.m p w pa d s (P.length:Int) i M) P.length (fun j s=>s.length=P.length∧∀ i (a:i < P.length),s[i]? = Xa (if i < j then mI 6 P[i] r.id (J4 M P[i]) else mM 6 P[i] 0 r.id 0 Xb E0)) v (fun k j s A C f=>?_) _ ⟨by simp,fun i a=>by simp [Xm a]⟩;obtain ⟨D,q⟩:=C;refine Zi (ZlN ..) (Za (fun h=>?_) fun h=>Zc ?_)
  ·simp only [CQ] at h;have g:j < P.length:=by omega
   have l:=q j g;rw [P3 (UT j)] at l;have n:(0:Int)≤(j:Int):=by omega
   have t:(j:Int) < (s.length:Int):=by omega
   refine Zg n (Zg t (Zi (JS (r:=mV 6 P[j] 0 r.id 0 Xb E0 E0) _ n l rfl) (Zg y (Zg n (Zg t (Zg n (Zg t ?_)))))));rw [Jd A v];refine f g _ ⟨?_,fun i a=>?_⟩
   ·unfold Zw;rw [List.length_modify];exact D
   ·unfold Zw;rw [Te,q i a];by_cases hij:i=j
    ·subst hij;rw [P3 (UT i),P4 (Nat.lt_succ_self i)];show Xa (if (i:Int).toNat=i then _ else _)=_;rw [P4 (by omega)];rfl
    ·have m:¬ (j:Int).toNat=i:=by omega
     by_cases hlt:i < j
     ·rw [P4 hlt,P4 (show i < j+1 by omega)];show Xa (if (j:Int).toNat=i then _ else _)=_;rw [P3 m]
     ·rw [P3 hlt,P3 (show ¬ i < j+1 by omega)];show Xa (if (j:Int).toNat=i then _ else _)=_;rw [P3 m]
  ·simp only [CQ] at h
   have u:s=P.map (fun z=>mI 6 z r.id (J4 M z)):=by
    refine UO fun i=>?_;rcases XS i P.length with a | a
    ·rw [q i a,P4 (by omega),Xp,Xm a];rfl
    ·rw [Ur (by omega),Ur (by simp;omega)]
   rw [u];rfl
 obtain ⟨x,e,rfl⟩:=o;exact e
def ZzD (f:List Zk) (i:Id) (c:Int) (j:Nat) (q:j < f.length) (r:0≤f[j].c∧f[j].c < 32) (M:LL) (h:Zc2 M j (fun z=>z=c∨∃ e∈bl (f.take j) i,e.c=z)) :
  (f[j].b.q.contains i=Xc→∀ x:List AV,Zc2 (KQ (YW M f[j].c) f[j].c 3 ((J4 M f[j].c)++(E0++[x]))) (j+1) (fun z=>z=c∨∃ e∈bl (f.take (j+1)) i,e.c=z))∧
  (¬ f[j].b.q.contains i=Xc→Zc2 M (j+1) (fun z=>z=c∨∃ e∈bl (f.take (j+1)) i,e.c=z)):=by
 have o:=ZeA (fun e:Zk=>e.b.q.contains i) f q;have y:=h.get f[j].c;refine ⟨fun d x=>?_,fun d=>?_⟩
 ·obtain ⟨a,g,k,l,p,m⟩:=h.put f[j].c r ((J4 M f[j].c)++(E0++[x])) (by simp;omega);refine ⟨a,g,k,l,p,fun z=>(m z).trans ?_⟩;show _↔z=c∨∃ e∈(f.take (j+1)).filter _,e.c=z;rw [o,P4 d];constructor
  ·rintro ((h | ⟨e,b,h⟩) | h)
   ·exact .inl h
   ·exact .inr ⟨e,Xq.2 (.inl b),h⟩
   ·exact .inr ⟨f[j],Xq.2 (.inr (XF.2 rfl)),h.symm⟩
  ·rintro (h | ⟨e,b,h⟩)
   ·exact .inl (.inl h)
   ·rcases Xq.1 b with b | b
    ·exact .inl (.inr ⟨e,b,h⟩)
    ·rw [XF.1 b] at h;exact .inr h.symm
 ·obtain ⟨a,g,k,l,p,m⟩:=h;refine ⟨a,g,fun n s=>?_,l,by omega,fun z=>(m z).trans ?_⟩
  ·obtain ⟨z,t,u,v,w,A⟩:=k n s;exact ⟨z,t,u,v,w,by omega⟩
  ·show _↔z=c∨∃ e∈(f.take (j+1)).filter _,e.c=z;rw [o,P3 d,UG];rfl
def ZBx (f:List Zk) (i:Id) (a:Int) (j:Nat) (c:f.length≤j) (M:LL) (h:Zc2 M j (fun z=>z=a∨∃ e∈bl (f.take j) i,e.c=z)):VR M=Ze (YI (bl f i) a):=by
 rw [Uc c] at h
 have d:Zc2 M j (·∈YI (bl f i) a):=by
  obtain ⟨b,g,k,l,m,n⟩:=h;refine ⟨b,g,k,l,m,fun z=>(n z).trans ?_⟩;show _↔z∈List.foldl _ _ _;rw [Zg3,XF]
 exact d.parts (ZcP _ _ (Ty _ _))
def ZBZ (f:List Zk) (i:Id) (a:Int) (h:0≤a∧a < 32):Zc2 (KQ (E0++[[AV.slice Xb 2 E0]]) a 3 E0) 0 (fun z=>z=a∨∃ e∈bl (f.take 0) i,e.c=z):=by
 obtain ⟨b,c,d,g,j,k⟩:=ZlI a h;exact ⟨b,c,d,g,j,fun z=>(k z).trans (by simp [bl])⟩
def ZkG (b:List Zk):∀ (q:List Int),(b.foldl (fun p e=>ZnH p e.c) q).length≤q.length+b.length:=by
 induction b with
 | nil => intro q; simp
 | cons e b ih =>
  intro q;rw [Tm];have a:=ih (ZnH q e.c)
  have c:(ZnH q e.c).length≤q.length+1:=by
   unfold ZnH;split
   ·omega
   ·have:Zda q e.c≤q.length:=Y0 _ _;simp;omega
  simp only [XO];omega
def ZyK (f:List Zk) (g:Kj f) (i:f.length < 400) (n:Yt) (a:LL) (r:Req) (p:Int) (w pa d:LL) (b:bl f n.id = []) :
  Zs0 0 262144 16 Xb (f.map Zf) a r.id.c r.id.op r.id.k r.a.g r.a.r r.a.p r.a.c r.a.v r.a.o r.a.h r.a.f r.a.l r.a.n r.a.u r.a.w r.s r.i r.e.id.c r.e.id.op r.e.id.k (Zd r.e.q) r.e.d.g r.e.d.t r.e.d.h r.e.d.j r.e.d.i r.e.d.f r.e.d.m p w pa d n.id.c n.id.op n.id.k (Zd n.q) n.d.g n.d.t n.d.h n.d.j n.d.i n.d.f n.d.m=Xa ([mM 2 r.id.c 0 r.id 0 Xb E0],oT (f.map Zf) a r 5 E0 pa E0):=by
 have c:Ret (fun x=>x=(([mM 2 r.id.c 0 r.id 0 Xb E0],oT (f.map Zf) a r 5 E0 pa E0):Qt14)) (Zs0 0 262144 16 Xb (f.map Zf) a r.id.c r.id.op r.id.k r.a.g r.a.r r.a.p r.a.c r.a.v r.a.o r.a.h r.a.f r.a.l r.a.n r.a.u r.a.w r.s r.i r.e.id.c r.e.id.op r.e.id.k (Zd r.e.q) r.e.d.g r.e.d.t r.e.d.h r.e.d.j r.e.d.i r.e.d.f r.e.d.m p w pa d n.id.c n.id.op n.id.k (Zd n.q) n.d.g n.d.t n.d.h n.d.j n.d.i n.d.f n.d.m):=by
  rw [Zk3];have e:=ZAJ f g (by omega) n.id;rw [b] at e;exact Zb e (Za (fun _=>Zb (s48 (f.map Zf) a r p w pa E0 0 Xb E0) (Zc rfl)) fun h=>(h (by kernel_rfl)).elim)
 obtain ⟨x,e,rfl⟩:=c;exact e
def ZAg (f:List Zk) (e:f.length < 900) (g:f.Pairwise fun a b=>lte a b=Xc) (k:Nat) (i:k < f.length) (c:LL) (r:Req) (p:Int) (w pa d:LL) (j:r.e.id=f[k].b.id) (l:r.id.c=f[k].c) (m:r.a.r=f[k].r) (n:r.a.g=6) {Q:Qt14→Prop} (h:Ret Q (Zs0 0 262144 16 Xb (f.map Zf) c r.id.c r.id.op r.id.k r.a.g r.a.r r.a.p r.a.c r.a.v r.a.o r.a.h r.a.f r.a.l r.a.n r.a.u r.a.w r.s r.i r.e.id.c r.e.id.op r.e.id.k (Zd r.e.q) r.e.d.g r.e.d.t r.e.d.h r.e.d.j r.e.d.i r.e.d.f r.e.d.m p w pa d f[k].b.id.c f[k].b.id.op f[k].b.id.k (Zd f[k].b.q) f[k].b.d.g f[k].b.d.t f[k].b.d.h f[k].b.d.j f[k].b.d.i f[k].b.d.f f[k].b.d.m)):Ret Q (g85 0 262144 16 Xb (f.map Zf) c r.id.c r.id.op r.id.k r.a.g r.a.r r.a.p r.a.c r.a.v r.a.o r.a.h r.a.f r.a.l r.a.n r.a.u r.a.w r.s r.i r.e.id.c r.e.id.op r.e.id.k (Zd r.e.q) r.e.d.g r.e.d.t r.e.d.h r.e.d.j r.e.d.i r.e.d.f r.e.d.m p w pa d):=by
 rw [ZdJ];refine Za (fun h=>?_) fun _=>Za (fun h=>?_) fun _=>Za (fun h=>?_) fun _=>Za (fun h=>?_) fun _=>Zb (Zxv f e g k i c r p w pa d j l m) (Za (fun h=>by cases h) fun _=>Za (fun h=>?_) fun _=>Zh h fun x o=>Zc o)
 ·exfalso;simp only [CQ] at h;omega
 ·exfalso;simp only [CQ] at h;omega
 ·exfalso;simp only [CQ] at h;omega
 ·exfalso;simp only [CQ] at h;omega
 ·exfalso;simp only [CQ] at h;omega
def ZB6 (f:List Zk) (s:Kj f) (G:f.length < 400) (u:∀ e∈f,0≤e.c∧e.c < 32) (n:Yt) (g:LL) (r:Req) (l:0≤r.id.c∧r.id.c < 32) (p:Int) (w pa v:LL) (m:bl f n.id≠[]) :
  Ret (fun x=>∃ h:Int→LL,x=((YI (bl f n.id) r.id.c).map (fun z=>mI 6 z r.id (h z)),oT (f.map Zf) g r 2 (Ze (YI (bl f n.id) r.id.c)) (Ze (YI (bl f n.id) r.id.c)) (Zd (Yh (bl f n.id))))) (Zs0 0 262144 16 Xb (f.map Zf) g r.id.c r.id.op r.id.k r.a.g r.a.r r.a.p r.a.c r.a.v r.a.o r.a.h r.a.f r.a.l r.a.n r.a.u r.a.w r.s r.i r.e.id.c r.e.id.op r.e.id.k (Zd r.e.q) r.e.d.g r.e.d.t r.e.d.h r.e.d.j r.e.d.i r.e.d.f r.e.d.m p w pa v n.id.c n.id.op n.id.k (Zd n.q) n.d.g n.d.t n.d.h n.d.j n.d.i n.d.f n.d.m):=by
 have y:(bl f n.id).length≤f.length:=U9 _ _
 have d:(YI (bl f n.id) r.id.c).length < 900:=by
  have:=ZkG (bl f n.id) [r.id.c];simp only [TO] at this;show ((bl f n.id).foldl _ [r.id.c]).length < 900;omega
 rw [Zk3];refine Zb (ZAJ f s (by omega) n.id) (Za (fun h=>?_) fun _=>Zg (by simp [Zbz]) ?_)
 ·exfalso;simp only [CQ,Ja,Yh,Xi] at h;exact m (List.eq_nil_of_length_eq_zero (by omega))
 ·rw [Xi];refine Zo (F:=fun k (M:LL) i=>Zg4 k 0 262144 16 Xb (f.map Zf) g r.id.c r.id.op r.id.k r.a.g r.a.r r.a.p r.a.c r.a.v r.a.o r.a.h r.a.f r.a.l r.a.n r.a.u r.a.w r.s r.i r.e.id.c r.e.id.op r.e.id.k (Zd r.e.q) r.e.d.g r.e.d.t r.e.d.h r.e.d.j r.e.d.i r.e.d.f r.e.d.m p w pa (Zd (Yh (bl f n.id))) n.id.c n.id.op n.id.k (Zd n.q) n.d.g n.d.t n.d.h n.d.j n.d.i n.d.f n.d.m (f.map Zf) (f.length:Int) i M) f.length (fun j M=>Zc2 M j (fun z=>z=r.id.c∨∃ e∈bl (f.take j) n.id,e.c=z)) (by omega) (fun k j M t b c=>?_) _ ?_
  ·refine Zi (ZmT ..) (Za (fun h=>?_) fun h=>?_)
   ·simp only [CQ] at h;have a:j < f.length:=by omega
    have A:=s.q f[j] (XC a);have o:=u f[j] (XC a);have H:=b.get f[j].c;obtain ⟨C,D⟩:=ZzD f n.id r.id.c j a o M b;refine Zi (ZO a _) (Zb (e206 f[j] A n.id) (Za (fun q=>Zg b.full (Zg (Zj (show (J4 M f[j].c).length+_≤4096 by simp;omega) (by decide)) (Zg (b.at f[j].c) ?_))) fun q=>?_))
    ·rw [Jd t (by omega)];exact c a _ (C q _)
    ·rw [Jd t (by omega)];exact c a _ (D q)
   ·simp only [CQ] at h;have E:=ZBx f n.id r.id.c j (by omega) M b;refine Zg b.any (Zg (b.keys (by omega)) ?_);rw [E];refine Zb (s50 (f.map Zf) g r 2 w (Zd (Yh (bl f n.id))) (YI (bl f n.id) r.id.c) d 6) ?_;exact Zi (Ztz (f.map Zf) g r 2 (Ze (YI (bl f n.id) r.id.c)) (Ze (YI (bl f n.id) r.id.c)) (Zd (Yh (bl f n.id))) (YI (bl f n.id) r.id.c) (by omega) M b.any) (Zc ⟨J4 M,rfl⟩)
  ·exact ZBZ f n.id r.id.c l
end Go.Proofs.YtnkmbgbpkgmbnaaGreat
