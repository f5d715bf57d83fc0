/- Y11a, Y11b, Y12a, Y12d, Y18a, Y18b, Y18c, Y18d, Y18e, Y24a, Y24c, Y24d, YL23d, YJ11a, YJ11b, YL23f, YL23g, YN12a, Ya, Yb, Yc, Yd, Ye, Yf, Yg, Yh, Yi: texts of the proof, put together. -/
import Derived.Test.YtlgmnddelljbmaaGreatM6
import Derived.Test.YtlgmnddelljbmaaGreatFVi

section
namespace Go.Proofs.YtlgmnddelljbmaaGreat
open Go Go.AM
set_option linter.unusedSimpArgs false
set_option linter.unusedVariables false
set_option maxRecDepth 100000
def KX (k b:Int):Bool:=decide ((k=1∧6≤b∧b≤40)∨(k=2∧12≤b∧b≤40)∨(k=3∧b=12)∨(k=4∧b=6)∨(k=5∧b=10)∨(k=6∧b=16))
theorem ZvO (k b:Int):Ztc k b=some (KX k b):=by
 rw [ZmJ]
 repeat' split
 all_goals (refine congrArg some ?_;rw [Jf];simp only [KX,CQ] at *; omega)
def ZfC (k:Int):Int:=if k=3 then 12 else if k=4 then 6 else if k=5 then 10 else if k=6 then 16 else 0
theorem ZvG (k:Int):Zss k=some (ZfC k):=by
 rw [Znq]
 simp only [CQ,ZfC]
 repeat' split
 all_goals first | rfl | omega
theorem ZuK (k b:Int):Zrg k b=some (KX k b):=by
 rw [Znt]
 simp only [ZvG,Option.bind_some]
 repeat' split
 all_goals (refine congrArg some ?_;rw [Jf];simp only [KX,CQ] at *; first | omega | (rcases (by omega:k=3∨k=4∨k=5∨k=6) with rfl | rfl | rfl | rfl<;>simp [ZfC]))
def ZaV (w l:Int):Bool:=decide ((w=32∧0≤l∧l≤1)∨(w=39∧0≤l∧l≤2))
theorem ZvQ (w l:Int):Zr8 w l=some (ZaV w l):=by
 rw [Zoi]
 repeat' split
 all_goals (refine congrArg some ?_;rw [Jf];simp only [ZaV,CQ] at *; omega)
theorem ZuQ (w l:Int):ZrO w l=some (ZaV w l):=by
 rw [Zni]
 repeat' split
 all_goals (refine congrArg some ?_;rw [Jf];simp only [ZaV,CQ] at *; omega)
def Kp (a b:Int):Bool:=decide (6≤b∧b≤40∧0≤a∧a % 2^b.toNat=0∧a+2^b.toNat≤1099511627776)
theorem Zhr {b:Int} (h:b≤40):(2:Int)^b.toNat≤1099511627776:=by
 have:=Zim (m:=b.toNat) (n:=40) (by omega)
 have e:(2:Int)^40=1099511627776:=by decide
 omega
theorem Zgn {a:Int} {n:Nat} (h:0≤a):iop .rem .i64 a (2^n)=a % 2^n:=Int.tmod_eq_emod_of_nonneg h
theorem Zpp {b:Int} (h:b≤40):iop .sub .i64 1099511627776 (2^b.toNat)=1099511627776-2^b.toNat:=by
 have:=Zhr h
 have:=J0 b.toNat
 exact W6 (by omega) (by omega)
theorem Zv0 (a b:Int):ZsY a b=some (Kp a b):=by
 have hp:=J0 b.toNat
 rw [Zop]
 by_cases h1:6≤b∧b≤40∧0≤a
 ·obtain ⟨h1,h2,h3⟩:=h1
  have hs:iop .shl .i64 1 b=2^b.toNat:=ZoG (by omega)
  have hr:ZA ((0:Int)≤b)=fun (x:Option Bool)=>x:=funext fun x=>Zz (by omega) x
  have hn:ZA (((2:Int)^b.toNat)≠0)=fun (x:Option Bool)=>x:=funext fun x=>Zz (by omega) x
  simp only [hs,hr,hn,Zgn h3,Zpp h2]
  repeat' split
  all_goals (refine congrArg some ?_;rw [Jf];simp only [Kp,CQ] at *; omega)
 ·have hf:Kp a b=false:=by simp only [Kp,decide_eq_false_iff_not];omega
  rw [hf]
  repeat' split
  all_goals first | rfl | (exfalso;simp only [CQ] at *; omega)
theorem ZrI (a b:Int):Zmw a b=some (Kp a b):=by
 have hp:=J0 b.toNat
 rw [Zol]
 by_cases h1:6≤b∧b≤40∧0≤a
 ·obtain ⟨h1,h2,h3⟩:=h1
  have hw:IntKind.wrap .u64 b=b:=Kx (by omega) (by omega)
  have hs:iop .shl .i64 1 b=2^b.toNat:=ZoG (by omega)
  have hr:ZA ((0:Int)≤b)=fun (x:Option Bool)=>x:=funext fun x=>Zz (by omega) x
  have hn:ZA (((2:Int)^b.toNat)≠0)=fun (x:Option Bool)=>x:=funext fun x=>Zz (by omega) x
  have h40:=Zhr h2
  simp only [hw,hs,hr,hn,Zgn h3]
  repeat' split
  all_goals (refine congrArg some ?_;rw [Jf];simp only [Kp,CQ] at *; first | omega | (rw [Kg (by omega) (by omega)] at *; omega))
 ·have hf:Kp a b=false:=by simp only [Kp,decide_eq_false_iff_not];omega
  rw [hf]
  repeat' split
  all_goals first | rfl | (exfalso;simp only [CQ] at *; omega)
def Zag (a b:Int):Int:=if Kp a b=true then a+2^b.toNat else 0
theorem Zd4 {a b:Int} (h:Kp a b=true):6≤b∧b≤40∧0≤a∧a % 2^b.toNat=0∧a+2^b.toNat≤1099511627776:=by simpa [Kp] using h
theorem Znm {a b:Int} (h:Kp a b=true):iop .add .i64 a (iop .shl .i64 1 b)=Zag a b:=by
 obtain ⟨h1,h2,h3,h4,h5⟩:=Zd4 h
 have:=J0 b.toNat
 rw [ZoG (by omega),Kg (by omega) (by omega),Zag,if_pos h]
def Zpu (a b c d:Int):Bool:=Kp a b&&Kp c d&&decide (a < Zag c d)&&decide (c < Zag a b)
def inB (a b c d:Int):Bool:=Kp a b&&Kp c d&&decide (a≤c)&&decide (Zag c d≤Zag a b)
structure Cap where
 kind:Int
 base:Int
 bits:Int
 rights:Int
 width:Int
 level:Int
 device:Bool
theorem ZvA (k b s r w l:Int) (d:Bool):ZtV k b s r w l d=some (b,s):=Zm3 ..
theorem Zmt (k b s r w l:Int) (d:Bool):ZkN k b s r w l d=some (b,s):=ZnE ..
def KS (c:Cap):Bool:=KX c.kind c.bits&&Kp c.base c.bits&&decide (0≤c.rights∧c.rights≤7)&&(if c.kind=3 then ZaV c.width c.level else decide (c.width=0∧c.level=0))&&(!c.device||decide (c.kind=1)||decide (c.kind=2))
theorem Zvs (k b s r w l:Int) (d:Bool):ZtP k b s r w l d=some (KS ⟨k,b,s,r,w,l,d⟩):=by
 rw [ZnY]
 simp only [ZvO,ZvA,Zv0,ZvQ,Option.bind_some]
 repeat' split
 all_goals (refine congrArg some ?_;rw [Jf];simp only [KS,CQ] at *; grind)
theorem ZtT (k b s r w l:Int) (d:Bool):ZqY k b s r w l d=some (KS ⟨k,b,s,r,w,l,d⟩):=by
 rw [ZnU]
 simp only [ZuK,Zmt,ZrI,ZuQ,Option.bind_some]
 repeat' split
 all_goals (refine congrArg some ?_;rw [Jf];simp only [KS,CQ] at *; grind)
end Go.Proofs.YtlgmnddelljbmaaGreat
end

section
namespace Go.Proofs.YtlgmnddelljbmaaGreat
open Go Go.AM
set_option linter.unusedSimpArgs false
set_option linter.unusedVariables false
set_option maxRecDepth 100000
def ZkA (obj a sz bits r w l:Int) (d:Bool) (j:Nat):List AV:=[I obj,I (a+j*sz),I bits,I r,I w,I l,B d]
def Yu (obj a sz bits r w l:Int) (d:Bool) (n:Nat):List (List AV):=(List.range n).map (ZkA obj a sz bits r w l d)
theorem Zdr (obj a sz bits r w l:Int) (d:Bool) (n:Nat):Yu obj a sz bits r w l d (n+1)=Yu obj a sz bits r w l d n++[ZkA obj a sz bits r w l d n]:=by
 simp [Yu,List.range_succ]
theorem Zaj (obj a sz bits r w l:Int) (d:Bool) (n:Nat):(Yu obj a sz bits r w l d n).length=n:=by simp [Yu]
theorem WP {n:Nat} (h:n < 2^64):n < Jn:=by
 have:Jn=1208925819614629174706176:=rfl
 omega
theorem Zjz {a b:List (List AV)} {k:Nat} (h:(a.length+b.length)*(k+1)≤1099511627776):Jb a b k:=h
theorem Zmg {k b:Int} (h:KX k b=true):6≤b∧b≤40:=by
 simp only [KX,decide_eq_true_eq] at h
 omega
theorem ZmQ {c:Cap} (h:KS c=true):Kp c.base c.bits=true:=by
 simp only [KS,Bool.and_eq_true] at h
 exact h.1.1.1.2
def ZbF (c:Cap) (obj bits level width off cnt:Int):Int:=
 if KS c=false∨c.kind≠1 then 5
 else if iop .and .i64 c.rights 2=0 then 8
 else if KX obj bits=false∨(obj=3∧ZaV width level=false)∨cnt < 1∨8 < cnt∨off < 0 then 1
 else if c.device=true∧obj≠1∧obj≠2 then 5
 else if off % 2^bits.toNat≠0∨2^c.bits.toNat-cnt*2^bits.toNat < off∨(obj=1∧c.bits≤bits) then 6
 else 0
def Vp (c:Cap) (obj bits level width off cnt:Int):List (List AV):=
 if ZbF c obj bits level width off cnt=0 then Yu obj (c.base+off) (2^bits.toNat) bits c.rights (if obj=3 then width else 0) (if obj=3 then level else 0) c.device cnt.toNat else []
theorem Zgo {c:Cap} {obj bits level width off cnt e:Int} (he:e≠0) (h:ZbF c obj bits level width off cnt=e) :
  some (E0,e)=some (Vp c obj bits level width off cnt,ZbF c obj bits level width off cnt):=by
 simp only [Vp,h,if_neg he]
theorem Zmb {c:Cap} {obj bits off cnt:Int} (hc:KS c=true) (hs:KX obj bits=true) (h1:1≤cnt) (h2:cnt≤8) (h3:0≤off) :
  iop .shl .i64 1 bits=2^bits.toNat∧iop .rem .i64 off (2^bits.toNat)=off % 2^bits.toNat∧iop .shl .i64 1 c.bits=2^c.bits.toNat∧iop .mul .i64 cnt (2^bits.toNat)=cnt*2^bits.toNat∧
   iop .sub .i64 (2^c.bits.toNat) (cnt*2^bits.toNat)=2^c.bits.toNat-cnt*2^bits.toNat∧(2:Int)^bits.toNat≠0∧0≤bits∧0≤c.bits∧0≤c.base∧c.base+2^c.bits.toNat≤1099511627776∧
   0 < (2:Int)^bits.toNat∧(2:Int)^bits.toNat≤1099511627776∧(2:Int)^bits.toNat≤cnt*2^bits.toNat∧0 < (2:Int)^c.bits.toNat∧bits≤40∧c.bits≤40:=by
 obtain ⟨b1,b2⟩:=Zmg hs
 obtain ⟨r1,r2,r3,r4,r5⟩:=Zd4 (ZmQ hc)
 have p1:=J0 bits.toNat
 have p2:=J0 c.bits.toNat
 have q1:=Zhr b2
 have q2:=Zhr r2
 have m1:cnt*2^bits.toNat≤8*2^bits.toNat:=Int.mul_le_mul_of_nonneg_right (by omega) (by omega)
 have m2:1*2^bits.toNat≤cnt*2^bits.toNat:=Int.mul_le_mul_of_nonneg_right (by omega) (by omega)
 refine ⟨ZoG (by omega),Zgn (by omega),ZoG (by omega),ZqX (by omega) (by omega),ZlX (by omega) (by omega),by omega,by omega,by omega,r3,r5,p1,q1,by omega,p2,b2,r2⟩
theorem ZfI {γ:Type} {p:Prop} {_:Decidable p} (h:p):(ZA p:Option γ→Option γ)=fun x=>x:=funext fun x=>Zz h x
theorem Zs0:∃ f,Jn=f+1+1+1+1+1+1:=⟨Jn-6,by decide⟩
end Go.Proofs.YtlgmnddelljbmaaGreat
end

section
namespace Go.Proofs.YtlgmnddelljbmaaGreat
open Go Go.AM
set_option linter.unusedSimpArgs false
set_option linter.unusedVariables false
set_option maxRecDepth 100000
abbrev ZuS:List Sh:=[.int .i64,.int .i64,.int .i64]
def V2 (i:Id):Bool:=decide (0≤i.core∧i.core < 32∧1≤i.op∧i.op≤1073741824∧0≤i.part∧i.part < 8)
def Zmz (a b:Int):Int:=if a < b then -1 else if b < a then 1 else 0
def VN (x y z:Int):Int:=if x≠0 then x else if y≠0 then y else z
def ZoC (a b c d e f:Int):Bool:=decide (a < d∨(a=d∧(b < e∨(b=e∧c < f))))
theorem Z5 (l:List Id):(Zb l).length=l.length:=by simp [Zb]
theorem ZgN (l:List Id) (n:Nat):(Zb l).take n=Zb (l.take n):=by simp [Zb,List.map_take]
theorem Zqg {l:List Id} {i:Nat} {x:Id} (h:l[i]? = some x):(Zb l)[i]? = some (idc x):=by simp [Zb,h]
theorem VG {γ:Type} {l:List Id} {i:Int} {x:Id} (k:(Int×Int×Int)→Option γ) (h0:0≤i) (h:l[i.toNat]? = some x):Zt (Zb l) i ZuS k=k (x.core,x.op,x.part):=
 Y5 (sh:=ZuS) (r:=(x.core,x.op,x.part)) k h0 (Zqg h) rfl
theorem Km (a b c d e f:Int):((cop .eql a d&&(cop .eql b e&&(cop .eql c f&&true)))=true)↔((⟨a,b,c⟩:Id)=⟨d,e,f⟩):=by
 simp only [CQ,Id.mk.injEq,and_true]
structure ZbI where
 id:Id
 path:List Id
 cap:Cap
def KI (n:ZbI) (i:Nat):Bool:=match n.path[i]? with | none=>true | some x=>V2 x&&decide (x≠n.id)&&!(n.path.take i).contains x
def YJ (n:ZbI):Bool:=V2 n.id&&KS n.cap&&decide (n.path.length≤8)&&(List.range n.path.length).all (KI n)
end Go.Proofs.YtlgmnddelljbmaaGreat
end

section
namespace Go.Proofs.YtlgmnddelljbmaaGreat
open Go Go.AM
set_option linter.unusedSimpArgs false
set_option linter.unusedVariables false
set_option maxRecDepth 100000
theorem ZtZ (a b c:Int):ZqJ a b c=some (V2 ⟨a,b,c⟩):=by
 rw [ZmX]
 repeat' split
 all_goals (refine congrArg some ?_;rw [Jf];simp only [V2,CQ] at *; omega)
theorem l16 {l:List Id} (hl:l.length < 2^63) (a b c:Int):∀ (j i fuel:Nat),l.length=i+j→j < fuel→Zkf fuel (Zb l) a b c i=some ((l.drop i).contains ⟨a,b,c⟩):=by
 intro j
 induction j with
 | zero =>
  intro i fuel h hf
  obtain ⟨f,rfl⟩:∃ f,fuel=f+1:=⟨fuel-1,by omega⟩
  rw [Zc8,if_neg (by simp only [CQ,Z5];omega),List.drop_of_length_le (by omega)]
  rfl
 | succ j ih =>
  intro i fuel h hf
  obtain ⟨f,rfl⟩:∃ f,fuel=f+1:=⟨fuel-1,by omega⟩
  have hi:i < l.length:=by omega
  have hat:l[(i:Int).toNat]? = some l[i]:=by simp
  have a4:iop .add .i64 i 1=((i+1:Nat):Int):=by rw [Kg (by omega) (by omega)];omega
  rw [Zc8,if_pos (by simp only [CQ,Z5];omega),VG _ (by omega) hat,a4,List.drop_eq_getElem_cons hi,List.contains_cons]
  by_cases he:l[i]=(⟨a,b,c⟩:Id)
  ·rw [if_pos (by rw [Km];exact he)]
   simp [he]
  ·rw [if_neg (by rw [Km];exact he),ih (i+1) f (by omega) (by omega)]
   have:((⟨a,b,c⟩:Id) == l[i])=false:=by simp;exact fun h=>he h.symm
   rw [this,Bool.false_or]
theorem s16 (l:List Id) (hl:l.length < 2^63) (a b c:Int):g16 (Zb l) a b c=some (l.contains ⟨a,b,c⟩):=by
 have:=l16 hl a b c l.length 0 Jn (by omega) (WP (by omega))
 rw [Zmk]
 exact this
def W1 (n:ZbI) (i:Nat):Bool:=match n.path[i]? with | none=>true | some x=>V2 x&&!(n.path.take i).contains x
theorem Zh5 (n:ZbI):YJ n=(V2 n.id&&KS n.cap&&decide (n.path.length≤8)&&(!n.path.contains n.id&&(List.range n.path.length).all (W1 n))):=by
 unfold YJ
 congr 1
 rw [Jf]
 simp only [Bool.and_eq_true,List.all_eq_true,List.mem_range,Bool.not_eq_true',← Bool.not_eq_true,List.contains_iff_mem]
 constructor
 ·intro h
  refine ⟨fun hc=>?_,fun i hi=>?_⟩
  ·obtain ⟨i,hi⟩:=List.mem_iff_getElem?.1 hc
   have:=h i (List.getElem?_eq_some_iff.1 hi).1
   unfold KI at this
   rw [hi] at this
   simp at this
  ·have:=h i hi
   unfold KI at this
   unfold W1
   rw [List.getElem?_eq_getElem hi] at this ⊢
   simp only [Bool.and_eq_true] at this ⊢
   exact ⟨this.1.1,this.2⟩
 ·intro ⟨h1,h2⟩ i hi
  have:=h2 i hi
  unfold W1 at this
  unfold KI
  rw [List.getElem?_eq_getElem hi] at this ⊢
  simp only [Bool.and_eq_true,decide_eq_true_eq] at this ⊢
  exact ⟨⟨this.1,fun he=>h1 (he ▸ List.getElem_mem hi)⟩,this.2⟩
theorem ZvB (n:ZbI) (hl:n.path.length < 2^63):∀ (j i fuel:Nat),n.path.length=i+j→j < fuel→
  ZgT fuel n.id.core n.id.op n.id.part (Zb n.path) n.cap.kind n.cap.base n.cap.bits n.cap.rights n.cap.width n.cap.level n.cap.device i=some ((List.range' i j).all (W1 n)):=by
 intro j
 induction j with
 | zero =>
  intro i fuel h hf
  obtain ⟨f,rfl⟩:∃ f,fuel=f+1:=⟨fuel-1,by omega⟩
  rw [Zej,if_neg (by simp only [CQ,Z5];omega)]
  rfl
 | succ j ih =>
  intro i fuel h hf
  obtain ⟨f,rfl⟩:∃ f,fuel=f+1:=⟨fuel-1,by omega⟩
  have hi:i < n.path.length:=by omega
  have hat:n.path[(i:Int).toNat]? = some n.path[i]:=by simp
  have a4:iop .add .i64 i 1=((i+1:Nat):Int):=by rw [Kg (by omega) (by omega)];omega
  have hp:W1 n i=(V2 n.path[i]&&!(n.path.take i).contains n.path[i]):=by
   unfold W1
   rw [List.getElem?_eq_getElem hi]
  have hlt:(n.path.take i).length < 2^63:=by rw [List.length_take];omega
  rw [Zej,if_pos (by simp only [CQ,Z5];omega),VG _ (by omega) hat,a4,List.range'_succ,List.all_cons,hp]
  simp only [ZtZ,Option.bind_some]
  cases h1:V2 n.path[i] with
  | false => simp
  | true =>
   rw [if_neg (by simp),Zz (by omega),Zz (by rw [Z5];omega),VG _ (by omega) hat,Int.toNat_natCast,ZgN,s16 _ hlt,Option.bind_some]
   cases h3:(n.path.take i).contains n.path[i] with
   | true => simp
   | false =>
    rw [if_neg (by simp)]
    have:=ih (i+1) f (by omega) (by omega)
    rw [this]
    simp
theorem Zvc (n:ZbI) (hl:n.path.length < 2^63):Zr7 n.id.core n.id.op n.id.part (Zb n.path) n.cap.kind n.cap.base n.cap.bits n.cap.rights n.cap.width n.cap.level n.cap.device=some (YJ n):=by
 rw [Znp,Zh5]
 simp only [ZtZ,ZtT,Option.bind_some,Z5,s16 _ hl]
 cases h1:V2 n.id with
 | false => simp [show (⟨n.id.core, n.id.op, n.id.part⟩ : Id) = n.id from rfl, h1]
 | true =>
  cases h2:KS n.cap with
  | false => simp [show (⟨n.id.core, n.id.op, n.id.part⟩ : Id) = n.id from rfl, h1, show (⟨n.cap.kind, n.cap.base, n.cap.bits, n.cap.rights, n.cap.width, n.cap.level, n.cap.device⟩ : Cap) = n.cap from rfl, h2]
  | true =>
   rw [if_neg (by simp),if_neg (by simp)]
   by_cases h3:n.path.length≤8
   ·rw [if_neg (by simp only [CQ];omega)]
    cases h4:n.path.contains n.id with
    | true => simp
    | false =>
     rw [if_neg (by simp)]
     have:=ZvB n hl n.path.length 0 Jn (by omega) (WP (by omega))
     have e:(List.range' 0 n.path.length)=List.range n.path.length:=(List.range_eq_range' ..).symm
     rw [e] at this
     refine this.trans ?_
     simp [h3]
   ·rw [if_pos (by simp only [CQ];omega)]
    simp [h3]
theorem ZuZ {l m:List Id} (hl:l.length < 2^63) (hm:l.length=m.length):∀ (j i fuel:Nat),l.length=i+j→j < fuel→Zhb fuel (Zb l) (Zb m) i=some (decide (l.drop i=m.drop i)):=by
 intro j
 induction j with
 | zero =>
  intro i fuel h hf
  obtain ⟨f,rfl⟩:∃ f,fuel=f+1:=⟨fuel-1,by omega⟩
  rw [ZeE,if_neg (by simp only [CQ,Z5];omega),List.drop_of_length_le (by omega),List.drop_of_length_le (by omega)]
  rfl
 | succ j ih =>
  intro i fuel h hf
  obtain ⟨f,rfl⟩:∃ f,fuel=f+1:=⟨fuel-1,by omega⟩
  have hi:i < l.length:=by omega
  have hi':i < m.length:=by omega
  have hat:l[(i:Int).toNat]? = some l[i]:=by simp
  have hat':m[(i:Int).toNat]? = some m[i]:=by simp
  have a4:iop .add .i64 i 1=((i+1:Nat):Int):=by rw [Kg (by omega) (by omega)];omega
  rw [ZeE,if_pos (by simp only [CQ,Z5];omega),VG _ (by omega) hat,VG _ (by omega) hat',a4,List.drop_eq_getElem_cons hi,List.drop_eq_getElem_cons hi']
  by_cases he:l[i]=m[i]
  ·rw [if_neg (by rw [Bool.not_eq_true',← Bool.not_eq_true,Km];exact fun h=>h he),ih (i+1) f (by omega) (by omega)]
   simp only [he,List.cons.injEq,true_and]
  ·rw [if_pos (by rw [Bool.not_eq_true',← Bool.not_eq_true,Km];exact he)]
   simp only [List.cons.injEq,he,false_and,decide_false]
theorem ZvW (l m:List Id) (hl:l.length < 2^63) (hm:m.length < 2^63):Zsn (Zb l) (Zb m)=some (decide (l=m)):=by
 rw [ZmK,Z5,Z5]
 by_cases h:l.length=m.length
 ·rw [if_neg (by simp only [CQ];omega)]
  have:=ZuZ hl h l.length 0 Jn (by omega) (WP (by omega))
  rw [List.drop_zero,List.drop_zero] at this
  exact this
 ·rw [if_pos (by simp only [CQ];omega)]
  have:¬ l=m:=fun he=>h (by rw [he])
  simp [this]
theorem s50 (a b c:Int) (l:List Id) (hl:l.length < 2^63) (k bs s r w lv:Int) (d:Bool):g50 a b c (Zb l) k bs s r w lv d a b c (Zb l) k bs s r w lv d=some true:=by
 rw [ZpF,ZvW l l hl hl,if_pos (by simp [cop]),if_pos (by simp [cop]),Option.bind_some]
 simp
end Go.Proofs.YtlgmnddelljbmaaGreat
end

section
namespace Go.Proofs.YtlgmnddelljbmaaGreat
open Go Go.AM
set_option linter.unusedSimpArgs false
set_option linter.unusedVariables false
set_option maxRecDepth 100000
theorem Zff {n:Nat} (h:n < 2^63):n+1 < Jn:=by
 have:(2:Nat)^64≤Jn:=by decide
 omega
theorem Zd9 {i n:Nat} (h:i < n) (hn:n < 2^63):iop .add .i64 (i:Int) 1=((i+1:Nat):Int):=by
 rw [Kg (by omega) (by omega)];omega
theorem ZfZ {i n:Nat} (h:i < n):(cop .lss (i:Int) (n:Int))=true:=by
 simp only [CQ];omega
theorem Zgp {i n:Nat} (h:n≤i):¬ (cop .lss (i:Int) (n:Int))=true:=by
 simp only [CQ];omega
structure Call where
 kind:Int
 slot:Int
 dest:Int
 core:Int
 mask:Int
 object:Int
 bits:Int
 level:Int
 offset:Int
 count:Int
 index:Int
 addr:Int
structure Req where
 id:Id
 call:Call
 region:Int
 width:Int
 src:ZbI
structure Zq where
 core:Int
 slot:Int
 node:ZbI
def Zrh (r:Req):List AV:=[I r.id.core,I r.id.op,I r.id.part,I r.call.kind,I r.call.slot,I r.call.dest,I r.call.core,I r.call.mask,I r.call.object,I r.call.bits,I r.call.level,I r.call.offset,I r.call.count,I r.call.index,I r.call.addr,I r.region,I r.width,I r.src.id.core,I r.src.id.op,I r.src.id.part,.slice false 3 (Zb r.src.path),I r.src.cap.kind,I r.src.cap.base,I r.src.cap.bits,I r.src.cap.rights,I r.src.cap.width,I r.src.cap.level,B r.src.cap.device]
def Ze (e:Zq):List AV:=[I e.core,I e.slot,I e.node.id.core,I e.node.id.op,I e.node.id.part,.slice false 3 (Zb e.node.path),I e.node.cap.kind,I e.node.cap.base,I e.node.cap.bits,I e.node.cap.rights,I e.node.cap.width,I e.node.cap.level,B e.node.cap.device]
abbrev Zp9:List Sh:=[.int .i64,.int .i64,.int .i64,.slice 3,.int .i64,.int .i64,.int .i64,.int .i64,.int .i64,.int .i64,.bool]
abbrev ZmL:List Sh:=[.int .i64,.int .i64,.int .i64,.int .i64,.int .i64,.int .i64,.int .i64,.int .i64,.int .i64,.int .i64,.int .i64,.int .i64,.int .i64,.int .i64,.int .i64,.int .i64,.int .i64,.int .i64,.int .i64,.int .i64,.slice 3,.int .i64,.int .i64,.int .i64,.int .i64,.int .i64,.int .i64,.bool]
abbrev Zbg:List Sh:=[.int .i64,.int .i64,.int .i64,.int .i64,.int .i64,.slice 3,.int .i64,.int .i64,.int .i64,.int .i64,.int .i64,.int .i64,.bool]
def Zm0 (n:ZbI):ShsT Zp9:=(n.id.core,n.id.op,n.id.part,Zb n.path,n.cap.kind,n.cap.base,n.cap.bits,n.cap.rights,n.cap.width,n.cap.level,n.cap.device)
def ZuD (r:Req):ShsT ZmL:=(r.id.core,r.id.op,r.id.part,r.call.kind,r.call.slot,r.call.dest,r.call.core,r.call.mask,r.call.object,r.call.bits,r.call.level,r.call.offset,r.call.count,r.call.index,r.call.addr,r.region,r.width,r.src.id.core,r.src.id.op,r.src.id.part,Zb r.src.path,r.src.cap.kind,r.src.cap.base,r.src.cap.bits,r.src.cap.rights,r.src.cap.width,r.src.cap.level,r.src.cap.device)
def J2 (e:Zq):ShsT Zbg:=(e.core,e.slot,e.node.id.core,e.node.id.op,e.node.id.part,Zb e.node.path,e.node.cap.kind,e.node.cap.base,e.node.cap.bits,e.node.cap.rights,e.node.cap.width,e.node.cap.level,e.node.cap.device)
theorem Vo {α γ:Type} {f:α→List AV} {sh:List Sh} {v:α→ShsT sh} (hf:∀ x,Zgr sh (f x)=some (v x)) {l:List α} {i:Nat} (h:i < l.length) (k:ShsT sh→Option γ):Zt (l.map f) (i:Int) sh k=k (v l[i]):=by
 refine Y5 k (by omega) (cs:=f l[i]) ?_ (hf _)
 rw [Int.toNat_natCast,List.getElem?_map,List.getElem?_eq_getElem h]
 rfl
theorem Ziz {γ:Type} {l:List Req} {i:Nat} (h:i < l.length) (k:ShsT ZmL→Option γ):Zt (l.map Zrh) (i:Int) ZmL k=k (ZuD l[i]):=Vo (fun _=>rfl) h k
theorem Z0 {γ:Type} {l:List Zq} {i:Nat} (h:i < l.length) (k:ShsT Zbg→Option γ):Zt (l.map Ze) (i:Int) Zbg k=k (J2 l[i]):=Vo (fun _=>rfl) h k
theorem Zhw {γ:Type} {l:List Id} {i:Nat} (h:i < l.length) (k:(Int×Int×Int)→Option γ):Zt (Zb l) (i:Int) [.int .i64,.int .i64,.int .i64] k=k (l[i].core,l[i].op,l[i].part):=Vo (f:=idc) (sh:=[.int .i64,.int .i64,.int .i64]) (v:=fun x=>(x.core,x.op,x.part)) (fun _=>rfl) h k
theorem JA {γ:Type} {l:List Int} {i:Nat} (h:i < l.length) (k:Int→Option γ):Zt (Za l) (i:Int) [.int .i64] k=k l[i]:=Vo (f:=Zht) (sh:=[.int .i64]) (v:=fun x=>x) (fun _=>rfl) h k
end Go.Proofs.YtlgmnddelljbmaaGreat
end

section
namespace Go.Proofs.YtlgmnddelljbmaaGreat
open Go Go.AM
set_option linter.unusedSimpArgs false
set_option linter.unusedVariables false
set_option maxRecDepth 100000
end Go.Proofs.YtlgmnddelljbmaaGreat
end

section
namespace Go.Proofs.YtlgmnddelljbmaaGreat
open Go Go.AM
set_option linter.unusedSimpArgs false
set_option linter.unusedVariables false
set_option maxRecDepth 100000
end Go.Proofs.YtlgmnddelljbmaaGreat
end

section
namespace Go.Proofs.YtlgmnddelljbmaaGreat
open Go Go.AM
set_option linter.unusedSimpArgs false
set_option linter.unusedVariables false
set_option maxRecDepth 100000
def Zrn (a b:Id):Bool:=ZoC a.core a.op a.part b.core b.op b.part
theorem ZvV (a b c d e f:Int):Zt9 a b c d e f=some (ZoC a b c d e f):=by
 rw [ZmV]
 repeat' split
 all_goals (refine congrArg some ?_;rw [Jf];simp only [ZoC,CQ] at *; omega)
def lte:Zq→Zq→Bool:=fun a b=>Zrn a.node.id b.node.id
end Go.Proofs.YtlgmnddelljbmaaGreat
end

section
namespace Go.Proofs.YtlgmnddelljbmaaGreat
open Go Go.AM
set_option linter.unusedSimpArgs false
set_option linter.unusedVariables false
set_option maxRecDepth 100000
theorem ZvE {n:Nat} (h:n≤maxLen):n < 2^63:=by
 have:maxLen+1=2^63:=by decide
 omega
end Go.Proofs.YtlgmnddelljbmaaGreat
end

section
namespace Go.Proofs.YtlgmnddelljbmaaGreat
open Go Go.AM
set_option linter.unusedSimpArgs false
set_option linter.unusedVariables false
set_option maxRecDepth 100000
theorem ZmZ {α:Type} {F:Nat→LL→Int→Option LL} (l:List α) (f:α→LL) (hn:l.length < 2^63)
  (step:∀ (k i:Nat) (hi:i < l.length),F (k+1) ((l.take i).flatMap f) (i:Int)=F k ((l.take i).flatMap f++f l[i]) ((i+1:Nat):Int))
  (last:∀ (k:Nat) (acc:LL) (i:Nat),l.length≤i→F (k+1) acc (i:Int)=some acc):F Jn [] 0=some (l.flatMap f):=by
 have key:∀ (j i fuel:Nat),l.length≤i+j→j < fuel→F fuel ((l.take i).flatMap f) (i:Int)=some (l.flatMap f):=by
  intro j
  induction j with
  | zero =>
   intro i fuel h hf
   obtain ⟨q,rfl⟩:∃ q,fuel=q+1:=⟨fuel-1,by omega⟩
   rw [last q _ i (by omega),List.take_of_length_le (by omega)]
  | succ j ih =>
   intro i fuel h hf
   obtain ⟨q,rfl⟩:∃ q,fuel=q+1:=⟨fuel-1,by omega⟩
   by_cases hi:i < l.length
   ·have e:(l.take i).flatMap f++f l[i]=(l.take (i+1)).flatMap f:=by
     rw [List.take_add_one,List.getElem?_eq_getElem hi,Option.toList_some,List.flatMap_append,List.flatMap_singleton]
    rw [step q i hi,e]
    exact ih (i+1) q (by omega) (by omega)
   ·rw [last q _ i (by omega),List.take_of_length_le (by omega)]
 exact key l.length 0 Jn (by omega) (by have:=Zff hn;omega)
theorem Zhi {α:Type} (f:α→List AV) (l:List α):l.flatMap (fun x=>[f x])=l.map f:=by
 induction l with
 | nil => rfl
 | cons a r ih => rw [List.flatMap_cons, ih, List.map_cons]; rfl
theorem ZH {a b:LL} {k:Nat} (h:a.length+b.length≤4096) (hk:k≤10000):Jb a b k:=by
 unfold Jb Jc
 have:(a.length+b.length)*(k+1)≤4096*10001:=Nat.mul_le_mul h (by omega)
 omega
theorem s39 (l:List Id) (h:l.length≤64):g39 (Zb l)=some (Zb l):=by
 rw [Zp5]
 exact Zz (ZH (by rw [Z5];simp;omega) (by omega)) _
theorem Zv1 (l:List Id) (h:l.length≤64):Zr3 (Zb l)=some (Zb l):=by
 rw [Zn8]
 refine Zoq (fun hn=>?_) ?_
 ·rw [if_pos rfl,hn]
 ·rw [if_neg Bool.false_ne_true]
  exact Zz (ZH (by rw [Z5];simp;omega) (by omega)) _
theorem s13 (n:ZbI) (h:n.path.length≤64):g13 n.id.core n.id.op n.id.part (Zb n.path) n.cap.kind n.cap.base n.cap.bits n.cap.rights n.cap.width n.cap.level n.cap.device=some (Zm0 n):=by
 rw [Zq6,s39 _ h];rfl
theorem s87 (n:ZbI) (h:n.path.length≤64):g87 n.id.core n.id.op n.id.part (Zb n.path) n.cap.kind n.cap.base n.cap.bits n.cap.rights n.cap.width n.cap.level n.cap.device=some (Zm0 n):=by
 rw [ZpT,Zv1 _ h];rfl
end Go.Proofs.YtlgmnddelljbmaaGreat
end

section
namespace Go.Proofs.YtlgmnddelljbmaaGreat
open Go Go.AM
set_option linter.unusedSimpArgs false
set_option linter.unusedVariables false
set_option maxRecDepth 100000
theorem ZjS {α:Type} (f:α→List AV) (g:α→α) (l:List α) (i o:Nat) (c:List AV) (h:∀ x,l[i]? = some x→setCells (f x) o c=f (g x)):JJ (l.map f) i o c=(l.modify i g).map f:=by
 unfold JJ
 refine List.ext_getElem? fun j=>?_
 rw [List.getElem?_modify,List.getElem?_map,List.getElem?_map,List.getElem?_modify]
 cases hj:l[j]? with
 | none => rfl
 | some x =>
  by_cases hij:i=j
  ·subst hij
   simp [h x hj]
  ·simp [hij]
theorem Zjo {α:Type} (l:List α) (i:Nat):l.modify i (fun x=>x)=l:=by
 refine List.ext_getElem? fun j=>?_
 rw [List.getElem?_modify]
 cases l[j]? <;> simp
theorem Zk4 {α:Type} (f:α→List AV) (l:List α) (i o:Nat) (c:List AV) (h:∀ x,l[i]? = some x→setCells (f x) o c=f x):JJ (l.map f) i o c=l.map f:=by
 rw [ZjS f (fun x=>x) l i o c h,Zjo]
end Go.Proofs.YtlgmnddelljbmaaGreat
end

section
namespace Go.Proofs.YtlgmnddelljbmaaGreat
open Go Go.AM
set_option linter.unusedSimpArgs false
set_option linter.unusedVariables false
set_option maxRecDepth 100000
theorem Zfn {γ:Type} {F:Nat→Int→Option γ} {n:Nat} (hit:Nat→γ) (p:Nat→Bool) (hn:n < 2^63)
  (step:∀ k i:Nat,i < n→F (k+1) (i:Int)=if p i=true then some (hit i) else F k ((i+1:Nat):Int))
  (last:∀ k:Nat,F (k+1) (n:Int)=some (hit n)) (m:Nat) (hm:m≤n) (h1:∀ j,j < m→p j=false) (h2:m < n→p m=true):F Jn 0=some (hit m):=by
 have key:∀ (j i fuel:Nat),i+j=m→n-i < fuel→F fuel (i:Int)=some (hit m):=by
  intro j
  induction j with
  | zero =>
   intro i fuel h hf
   obtain ⟨q,rfl⟩:∃ q,fuel=q+1:=⟨fuel-1,by omega⟩
   have:i=m:=by omega
   subst this
   by_cases hi:i < n
   ·rw [step q i hi,if_pos (h2 hi)]
   ·have:i=n:=by omega
    subst this
    exact last q
  | succ j ih =>
   intro i fuel h hf
   obtain ⟨q,rfl⟩:∃ q,fuel=q+1:=⟨fuel-1,by omega⟩
   rw [step q i (by omega),if_neg (by rw [h1 i (by omega)];exact Bool.false_ne_true)]
   exact ih (i+1) q (by omega) (by omega)
 exact key m 0 Jn (by omega) (by have:=Zff hn;omega)
def Zas {α:Type} (q:α→Bool):List α→Nat
 | [] => 0
 | a :: r => match q a with | true => 0 | false => Zas q r + 1
theorem Wf {α:Type} (q:α→Bool):∀ (l:List α),Zas q l≤l.length
 | [] => Nat.le_refl _
 | a :: r => by
  unfold Zas
  have:=Wf q r
  split<;>simp only [List.length_cons]<;>omega
theorem ZcL {α:Type} (q:α→Bool):∀ (l:List α) (j:Nat) (hj:j < l.length),j < Zas q l→q l[j]=false
 | [], j, hj, _ => by simp at hj
 | a :: r, j, hj, h => by
  unfold Zas at h
  split at h
  ·omega
  ·rename_i ha
   cases j with
   | zero => exact ha
   | succ j => exact ZcL q r j (by simpa using hj) (by omega)
theorem Zce {α:Type} (q:α→Bool):∀ (l:List α) (h:Zas q l < l.length),q l[Zas q l]=true
 | [], h => by simp at h
 | a :: r, h => by
  cases ha:q a with
  | true =>
   have e:Zas q (a::r)=0:=by unfold Zas;rw [ha]
   simp only [e]
   exact ha
  | false =>
   have e:Zas q (a::r)=Zas q r+1:=by rw [Zas];rw [ha]
   have h':Zas q r < r.length:=by rw [e] at h;simpa using h
   have:=Zce q r h'
   simp only [e]
   exact this
def ZfK (n m:Nat):Int:=if m < n then (m:Int) else -1
theorem ZgF (n m:Nat):cop .geq (ZfK n m) 0=decide (m < n):=by
 unfold ZfK
 rw [Jf]
 split<;>simp only [CQ]<;>constructor<;>intro<;>first | omega | simp_all
theorem Zf5 {n m:Nat} (h:m < n):ZfK n m=(m:Int):=if_pos h
def before (r q:Req):Bool:=Zrn r.id q.id
end Go.Proofs.YtlgmnddelljbmaaGreat
end

section
namespace Go.Proofs.YtlgmnddelljbmaaGreat
open Go Go.AM
set_option linter.unusedSimpArgs false
set_option linter.unusedVariables false
set_option maxRecDepth 100000
structure ZnS where
 root:Bool
 src:Int
 core:Int
 slot:Int
 kind:Int
 base:Int
 bits:Int
 count:Int
 rights:Int
 copy:Bool
def WK (s:ZnS):List AV:=[B s.root,I s.src,I s.core,I s.slot,I s.kind,I s.base,I s.bits,I s.count,I s.rights,B s.copy]
theorem Zqv:Tryz.prog.cellsOf 100=10:=by kernel_rfl
theorem Zoc {d:Nat} {cs:List AV} (h:TyR Tryz.prog (d+2) 100 cs):∃ s:ZnS,cs=WK s:=by
 rw [TyR] at h
 simp only [Tryz.underlying100] at h
 obtain ⟨ps,rfl,hl,hp⟩:=h
 obtain ⟨p0,p1,p2,p3,p4,p5,p6,p7,p8,p9,rfl⟩:∃ p0 p1 p2 p3 p4 p5 p6 p7 p8 p9,ps = [p0,p1,p2,p3,p4,p5,p6,p7,p8,p9]:=by
  match ps,hl with
  | [p0, p1, p2, p3, p4, p5, p6, p7, p8, p9], _ => exact ⟨p0, p1, p2, p3, p4, p5, p6, p7, p8, p9, rfl⟩
 obtain ⟨a,rfl⟩:=Zi7 (hp 0 _ _ rfl rfl)
 obtain ⟨b,rfl⟩:=Wm (hp 1 _ _ rfl rfl)
 obtain ⟨c,rfl⟩:=Wm (hp 2 _ _ rfl rfl)
 obtain ⟨d,rfl⟩:=Wm (hp 3 _ _ rfl rfl)
 obtain ⟨e,rfl⟩:=Wm (hp 4 _ _ rfl rfl)
 obtain ⟨f,rfl⟩:=Wm (hp 5 _ _ rfl rfl)
 obtain ⟨g,rfl⟩:=Wm (hp 6 _ _ rfl rfl)
 obtain ⟨i,rfl⟩:=Wm (hp 7 _ _ rfl rfl)
 obtain ⟨j,rfl⟩:=Wm (hp 8 _ _ rfl rfl)
 obtain ⟨k,rfl⟩:=Zi7 (hp 9 _ _ rfl rfl)
 exact ⟨⟨a,b,c,d,e,f,g,i,j,k⟩,rfl⟩
theorem Zjb {x:AV} (h:Zb9 Tryz.prog 12 22 x):∃ l:List ZnS,x = .slice false 10 (l.map WK)∧l.length < 2^63:=by
 simp only [Zb9,Tryz.underlying22] at h
 have hh:=h.2
 rw [TyR] at hh
 simp only [Tryz.underlying22,Zqv] at hh
 obtain ⟨xs,h1,h2,h3⟩:=hh
 obtain ⟨l,rfl,h5⟩:=Ze7 (f:=WK) (p:=fun _=>True) xs fun y hy=>(Zoc (h3 y hy)).elim fun a h=>⟨a,h,trivial⟩
 exact ⟨l,by simpa using h1,ZvE (by simpa using h2)⟩
end Go.Proofs.YtlgmnddelljbmaaGreat
end

section
namespace Go.Proofs.YtlgmnddelljbmaaGreat
open Go Go.AM
set_option linter.unusedSimpArgs false
set_option linter.unusedVariables false
set_option maxRecDepth 100000
theorem ZuE (a b:Int):Zow a b=some (Zag a b):=by
 rw [Znh]
 simp only [ZrI,Option.bind_some]
 cases h:Kp a b with
 | false => simp [Zag, h]
 | true =>
  obtain ⟨h1,h2,h3,h4,h5⟩:=Zd4 h
  have hw:IntKind.wrap .u64 b=b:=Kx (by omega) (by omega)
  simp only [Bool.not_true,Bool.false_eq_true,if_false,hw]
  rw [Zz (by omega),Znm h]
theorem ZsV (a b c d:Int):ZpD a b c d=some (Zpu a b c d):=by
 rw [ZnT]
 simp only [ZrI,ZuE,Option.bind_some]
 repeat' split
 all_goals (refine congrArg some ?_;rw [Jf];simp only [Zpu,JC,JB,Jw,Jx,Ju,Jz,Jr,Js,Jy,Jq,Jv,Jt,Bool.not_eq_true,Bool.not_eq_false,Bool.not_eq_true',Bool.not_eq_false',Bool.and_eq_true,Bool.or_eq_true,decide_eq_true_eq,decide_eq_false_iff_not,Bool.false_eq_true,Bool.true_eq_false,Option.bind_some,Option.some.injEq,false_iff,true_iff,iff_false,iff_true] at *; grind)
theorem Zvn (a b c d:Int):Zut a b c d=some (inB a b c d):=by
 rw [Zog]
 simp only [ZrI,ZuE,Option.bind_some]
 repeat' split
 all_goals (refine congrArg some ?_;rw [Jf];simp only [inB,JC,JB,Jw,Jx,Ju,Jz,Jr,Js,Jy,Jq,Jv,Jt,Bool.not_eq_true,Bool.not_eq_false,Bool.not_eq_true',Bool.not_eq_false',Bool.and_eq_true,Bool.or_eq_true,decide_eq_true_eq,decide_eq_false_iff_not,Bool.false_eq_true,Bool.true_eq_false,Option.bind_some,Option.some.injEq,false_iff,true_iff,iff_false,iff_true] at *; grind)
theorem s81 (k b s r w l:Int) (d:Bool) (m:Int):g81 k b s r w l d m=some (k,b,s,iop .and .i64 r m,w,l,d):=ZqQ ..
end Go.Proofs.YtlgmnddelljbmaaGreat
end

section
namespace Go.Proofs.YtlgmnddelljbmaaGreat
open Go Go.AM
set_option linter.unusedSimpArgs false
set_option linter.unusedVariables false
set_option maxRecDepth 100000
theorem l82 {b r w l k s:Int} {d fl:Bool} {lv wd bits sz off obj cnt:Int} (hb:0≤b) (hoff:0≤off) (hsz:0≤sz) (hc:cnt≤8) (hm:b+off+8*sz < 2^62):∀ (j i fuel:Nat),cnt=i+j→j < fuel→
  KR fuel obj bits lv wd off cnt k b s r w l d fl sz (Yu obj (b+off) sz bits r (if fl=true then wd else 0) (if fl=true then lv else 0) d i) i=some (Yu obj (b+off) sz bits r (if fl=true then wd else 0) (if fl=true then lv else 0) d cnt.toNat,0):=by
 intro j
 have e62:(2:Int)^62=4611686018427387904:=by decide
 induction j with
 | zero =>
  intro i fuel h hf
  obtain ⟨f,rfl⟩:∃ f,fuel=f+1:=⟨fuel-1,by omega⟩
  rw [ZgB,if_neg (by simp only [JC,JB,Jw,Jx,Ju,Jz,Jr,Js,Jy,Jq,Jv,Jt,Bool.not_eq_true,Bool.not_eq_false,Bool.not_eq_true',Bool.not_eq_false',Bool.and_eq_true,Bool.or_eq_true,decide_eq_true_eq,decide_eq_false_iff_not,Bool.false_eq_true,Bool.true_eq_false,Option.bind_some,Option.some.injEq,false_iff,true_iff,iff_false,iff_true];omega)]
  have:cnt.toNat=i:=by omega
  rw [this]
 | succ j ih =>
  intro i fuel h hf
  obtain ⟨f,rfl⟩:∃ f,fuel=f+1:=⟨fuel-1,by omega⟩
  have hsi:(i:Int)*sz≤8*sz:=Int.mul_le_mul_of_nonneg_right (by omega) hsz
  have hsi0:0≤(i:Int)*sz:=Int.mul_nonneg (by omega) hsz
  have a1:iop .add .i64 b off=b+off:=Kg (by omega) (by omega)
  have a2:iop .mul .i64 i sz=i*sz:=ZqX (by omega) (by omega)
  have a3:iop .add .i64 (b+off) (i*sz)=b+off+i*sz:=Kg (by omega) (by omega)
  have a4:iop .add .i64 i 1=((i+1:Nat):Int):=by rw [Kg (by omega) (by omega)];omega
  have:=ih (i+1) f (by omega) (by omega)
  rw [Zdr] at this
  rw [ZgB,if_pos (by simp only [JC,JB,Jw,Jx,Ju,Jz,Jr,Js,Jy,Jq,Jv,Jt,Bool.not_eq_true,Bool.not_eq_false,Bool.not_eq_true',Bool.not_eq_false',Bool.and_eq_true,Bool.or_eq_true,decide_eq_true_eq,decide_eq_false_iff_not,Bool.false_eq_true,Bool.true_eq_false,Option.bind_some,Option.some.injEq,false_iff,true_iff,iff_false,iff_true];omega)]
  cases fl
  ·simp only [Bool.false_eq_true,if_false] at this ⊢
   rw [Zz (Zjz (by rw [Zaj];simp;omega)),a1,a2,a3,a4]
   exact this
  ·simp only [if_true] at this ⊢
   rw [Zz (Zjz (by rw [Zaj];simp;omega)),a1,a2,a3,a4]
   exact this
set_option maxHeartbeats 4000000 in
theorem s82 (k b s r w l:Int) (d:Bool) (obj bits level width off cnt:Int):g82 k b s r w l d obj bits level width off cnt =
  some (Vp ⟨k,b,s,r,w,l,d⟩ obj bits level width off cnt,ZbF ⟨k,b,s,r,w,l,d⟩ obj bits level width off cnt):=by
 rw [ZqP]
 simp only [ZtT,ZuK,ZuQ,Option.bind_some]
 by_cases hh:KS ⟨k,b,s,r,w,l,d⟩=true∧k=1∧iop .and .i64 r 2≠0∧KX obj bits=true∧(obj=3→ZaV width level=true)∧1≤cnt∧cnt≤8∧0≤off
 ·obtain ⟨h1,rfl,h3,h4,h5,h6,h7,h8⟩:=hh
  obtain ⟨n1,n2,n3,n4,n5,n6,n7,n8,n9,n10,n11,n12,n13,n14,n15,n16⟩:=Zmb h1 h4 h6 h7 h8
  have q1:(ZA ((0:Int)≤bits):Option (List (List AV)×Int)→_)=fun x=>x:=ZfI n7
  have q2:(ZA ((2:Int)^bits.toNat≠0):Option (List (List AV)×Int)→_)=fun x=>x:=ZfI n6
  have hw1:IntKind.wrap .u64 bits=bits:=Kx n7 (by omega)
  have hw2:IntKind.wrap .u64 s=s:=Kx n8 (by simp only at n16;omega)
  have q3:(ZA ((0:Int)≤s):Option (List (List AV)×Int)→_)=fun x=>x:=ZfI n8
  simp only at n3 n5
  have loop:∀ fl:Bool,off+cnt*2^bits.toNat≤2^s.toNat→KR Jn obj bits level width off cnt 1 b s r w l d fl (2^bits.toNat) [] 0=some (Yu obj (b+off) (2^bits.toNat) bits r (if fl=true then width else 0) (if fl=true then level else 0) d cnt.toNat,0):=by
   intro fl hle
   have:=l82 (fl:=fl) (k:=1) (s:=s) (r:=r) (w:=w) (l:=l) (d:=d) (lv:=level) (wd:=width) (bits:=bits) (obj:=obj) (cnt:=cnt) n9 h8 (Int.le_of_lt n11) h7 (show b+off+8*2^bits.toNat < 2^62 by
    have e62:(2:Int)^62=4611686018427387904:=by decide
    simp only at n10
    omega) cnt.toNat 0 Jn (by omega) (WP (by omega))
   exact this
  have n9':0≤b:=n9
  have n10':b+2^s.toNat≤1099511627776:=n10
  have n5':off≤2^s.toNat→iop .sub .i64 (2^s.toNat) off=2^s.toNat-off:=fun h=>ZlX (by omega) (by omega)
  have hR:ZbF ⟨1,b,s,r,w,l,d⟩ obj bits level width off cnt=if d=true∧obj≠1∧obj≠2 then 5 else if off % 2^bits.toNat≠0∨2^s.toNat-cnt*2^bits.toNat < off∨(obj=1∧s≤bits) then 6 else 0:=by
   rw [ZbF,if_neg (by simp [h1]),if_neg h3,if_neg (by
    rintro (h | ⟨h,h'⟩ | h | h | h)
    ·rw [h4] at h;cases h
    ·rw [h5 h] at h';cases h'
    ·omega
    ·omega
    ·omega)]
  have hk1:cop .neq (1:Int) 1=false:=rfl
  simp only [hw1,hw2,n1,n2,n3,n4,q1,q2,q3,h1,h4,hk1,Bool.not_true,Bool.false_eq_true,if_false]
  clear n1 n2 n3 n4 n5 q1 q2 q3
  by_cases e5:d=true∧obj≠1∧obj≠2
  ·rw [if_pos e5] at hR
   obtain ⟨hd,e1,e2⟩:=e5
   repeat' (with_reducible refine KC (fun _=>?_) (fun _=>?_))
   all_goals first
    | exact Zgo (by decide) hR
    | (exfalso; simp only [JC, JB, Jw, Jx, Ju, Jz, Jr, Js, Jy, Jq, Jv, Jt, Bool.not_eq_true, Bool.not_eq_false, Bool.not_eq_true', Bool.not_eq_false', Bool.and_eq_true, Bool.or_eq_true, decide_eq_true_eq, decide_eq_false_iff_not, Bool.false_eq_true, Bool.true_eq_false, Option.bind_some, Option.some.injEq, false_iff, true_iff, iff_false, iff_true] at *; first | omega | grind)
  ·rw [if_neg e5] at hR
   by_cases e6:off % 2^bits.toNat≠0∨2^s.toNat-cnt*2^bits.toNat < off∨(obj=1∧s≤bits)
   ·rw [if_pos e6] at hR
    repeat' (with_reducible refine KC (fun _=>?_) (fun _=>?_))
    all_goals first
     | exact Zgo (by decide) hR
     | (exfalso; simp only [JC, JB, Jw, Jx, Ju, Jz, Jr, Js, Jy, Jq, Jv, Jt, Bool.not_eq_true, Bool.not_eq_false, Bool.not_eq_true', Bool.not_eq_false', Bool.and_eq_true, Bool.or_eq_true, decide_eq_true_eq, decide_eq_false_iff_not, Bool.false_eq_true, Bool.true_eq_false, Option.bind_some, Option.some.injEq, false_iff, true_iff, iff_false, iff_true] at *; rw [n5' (by omega)] at *; first | omega | grind)
     | (exfalso; simp only [JC, JB, Jw, Jx, Ju, Jz, Jr, Js, Jy, Jq, Jv, Jt, Bool.not_eq_true, Bool.not_eq_false, Bool.not_eq_true', Bool.not_eq_false', Bool.and_eq_true, Bool.or_eq_true, decide_eq_true_eq, decide_eq_false_iff_not, Bool.false_eq_true, Bool.true_eq_false, Option.bind_some, Option.some.injEq, false_iff, true_iff, iff_false, iff_true] at *; first | omega | grind)
   ·rw [if_neg e6] at hR
    have hL:∀ fl,KR Jn obj bits level width off cnt 1 b s r w l d fl (2^bits.toNat) [] 0=some (Yu obj (b+off) (2^bits.toNat) bits r (if fl=true then width else 0) (if fl=true then level else 0) d cnt.toNat,0):=fun fl=>loop fl (by omega)
    have n5:=n5' (by omega)
    simp only [hL,Vp,hR,if_true,n5]
    have hfl:(cop .eql obj 3=true)=(obj=3):=by simp only [JC,JB,Jw,Jx,Ju,Jz,Jr,Js,Jy,Jq,Jv,Jt,Bool.not_eq_true,Bool.not_eq_false,Bool.not_eq_true',Bool.not_eq_false',Bool.and_eq_true,Bool.or_eq_true,decide_eq_true_eq,decide_eq_false_iff_not,Bool.false_eq_true,Bool.true_eq_false,Option.bind_some,Option.some.injEq,false_iff,true_iff,iff_false,iff_true]
    simp only [hfl]
    repeat' (with_reducible refine KC (fun _=>?_) (fun _=>?_))
    all_goals first
     | rfl
     | (exfalso; simp only [JC, JB, Jw, Jx, Ju, Jz, Jr, Js, Jy, Jq, Jv, Jt, Bool.not_eq_true, Bool.not_eq_false, Bool.not_eq_true', Bool.not_eq_false', Bool.and_eq_true, Bool.or_eq_true, decide_eq_true_eq, decide_eq_false_iff_not, Bool.false_eq_true, Bool.true_eq_false, Option.bind_some, Option.some.injEq, false_iff, true_iff, iff_false, iff_true] at *; first | omega | grind)
 ·repeat' (with_reducible refine KC (fun _=>?_) (fun _=>?_))
  all_goals first
   | exact Zgo (by decide) (by simp only [JC, JB, Jw, Jx, Ju, Jz, Jr, Js, Jy, Jq, Jv, Jt, Bool.not_eq_true, Bool.not_eq_false, Bool.not_eq_true', Bool.not_eq_false', Bool.and_eq_true, Bool.or_eq_true, decide_eq_true_eq, decide_eq_false_iff_not, Bool.false_eq_true, Bool.true_eq_false, Option.bind_some, Option.some.injEq, false_iff, true_iff, iff_false, iff_true] at *; simp only [ZbF]; grind)
   | (exfalso; simp only [JC, JB, Jw, Jx, Ju, Jz, Jr, Js, Jy, Jq, Jv, Jt, Bool.not_eq_true, Bool.not_eq_false, Bool.not_eq_true', Bool.not_eq_false', Bool.and_eq_true, Bool.or_eq_true, decide_eq_true_eq, decide_eq_false_iff_not, Bool.false_eq_true, Bool.true_eq_false, Option.bind_some, Option.some.injEq, false_iff, true_iff, iff_false, iff_true] at *; grind)
end Go.Proofs.YtlgmnddelljbmaaGreat
end

section
namespace Go.Proofs.YtlgmnddelljbmaaGreat
open Go Go.AM
set_option linter.unusedSimpArgs false
set_option linter.unusedVariables false
set_option maxRecDepth 100000
theorem ZfB {n:ZbI} (h:YJ n=true):n.path.length≤8:=by
 simp only [YJ,Bool.and_eq_true,decide_eq_true_eq] at h
 exact h.1.2
theorem s12 (x n:Int) (h1:1≤n) (h2:n < 2^62):g12 x n=some (x % n):=by
 have e62:(2:Int)^62=4611686018427387904:=by decide
 have hm0:=Int.emod_nonneg x (show n≠0 by omega)
 have hm1:=Int.emod_lt_of_pos x (show 0 < n by omega)
 have ht:iop .rem .i64 x n=x.tmod n:=rfl
 rw [Zqz,if_neg (by simp only [CQ];omega),Zz (by omega),ht]
 have:=Int.tmod_eq_emod (a:=x) (b:=n)
 by_cases hd:0≤x∨n ∣ x
 ·rw [if_pos hd] at this
  rw [if_neg (by simp only [CQ];omega)]
  congr 1
  omega
 ·rw [if_neg hd] at this
  have habs:((n.natAbs:Nat):Int)=n:=by omega
  have hne:x % n≠0:=fun h=>hd (.inr (Int.dvd_of_emod_eq_zero h))
  rw [if_pos (by simp only [CQ];omega),Kg (by omega) (by omega)]
  congr 1
  omega
def Ret {α:Type} (P:α→Prop) (o:Option α):Prop:=∃ r,o=some r∧P r
theorem Zf {α:Type} {P:α→Prop} {a:α} (h:P a):Ret P (some a):=⟨a,rfl,h⟩
theorem ZJ {α β:Type} {P:β→Prop} {Q:α→Prop} {o:Option α} {f:α→Option β} (h:Ret Q o) (k:∀ r,Q r→Ret P (f r)):Ret P (o.bind f):=by
 obtain ⟨r,rfl,hr⟩:=h
 exact k r hr
theorem Zc {α:Type} {P:α→Prop} {c:Prop} {_:Decidable c} {a b:Option α} (h1:c→Ret P a) (h2:¬ c→Ret P b):Ret P (if c then a else b):=by
 split
 ·exact h1 ‹_›
 ·exact h2 ‹_›
theorem Zp {α:Type} {P:α→Prop} {p:Prop} {_:Decidable p} {x:Option α} (h:p) (k:Ret P x):Ret P (ZA p x):=by
 rw [Zz h];exact k
theorem Zh {α:Type} {P:α→Prop} {a b:Option α} (h:a=b) (k:Ret P b):Ret P a:=h ▸ k
theorem Zd {α β:Type} {P:β→Prop} {o:Option α} {a:α} {f:α→Option β} (h:o=some a) (k:Ret P (f a)):Ret P (o.bind f):=by
 subst h;exact k
theorem WE {σ γ:Type} {P:γ→Prop} {F:Nat→σ→Int→Option γ} {n:Nat} (J:Nat→σ→Prop) (hn:n < 2^63)
  (step:∀ (k i:Nat) (s:σ),i < n→J i s→(∀ s',J (i+1) s'→Ret P (F k s' ((i+1:Nat):Int)))→Ret P (F (k+1) s (i:Int)))
  (last:∀ (k:Nat) (s:σ),J n s→Ret P (F (k+1) s (n:Int))) (s:σ) (h:J 0 s):Ret P (F Jn s 0):=by
 have key:∀ (j i fuel:Nat) (s:σ),i+j=n→j < fuel→J i s→Ret P (F fuel s (i:Int)):=by
  intro j
  induction j with
  | zero =>
   intro i fuel s h hf hj
   obtain ⟨q,rfl⟩:∃ q,fuel=q+1:=⟨fuel-1,by omega⟩
   have:i=n:=by omega
   subst this
   exact last q s hj
  | succ j ih =>
   intro i fuel s h hf hj
   obtain ⟨q,rfl⟩:∃ q,fuel=q+1:=⟨fuel-1,by omega⟩
   exact step q i s (by omega) hj fun s' hs=>ih (i+1) q s' (by omega) (by omega) hs
 exact key n 0 Jn s (by omega) (by have:=Zff hn;omega) h
theorem place (x n:Int) (h1:1≤n) (h2:n < 2^62):Ret (fun r=>0≤r∧r < n) (g12 x n):=⟨_,s12 x n h1 h2,Int.emod_nonneg x (by omega),Int.emod_lt_of_pos x (by omega)⟩
theorem Zfd {γ:Type} {P:γ→Prop} {l:List Int} {z:Int} {k:Int→Option γ} (h0:0≤z) (h:z.toNat < l.length) (hk:Ret P (k l[z.toNat])):Ret P (Zt (Za l) z [.int .i64] k):=by
 have e:z=((z.toNat:Nat):Int):=by omega
 have:=JA h k
 rw [← e] at this
 exact Zh this hk
theorem K2 {γ:Type} {P:γ→Prop} {l:List Zq} {z:Int} {k:ShsT Zbg→Option γ} (h0:0≤z) (h:z.toNat < l.length) (hk:Ret P (k (J2 l[z.toNat]))):Ret P (Zt (l.map Ze) z Zbg k):=by
 have e:z=((z.toNat:Nat):Int):=by omega
 have:=Z0 h k
 rw [← e] at this
 exact Zh this hk
def ZkR (c:Cap):List AV:=[I c.kind,I c.base,I c.bits,I c.rights,I c.width,I c.level,B c.device]
abbrev ZkB:List Sh:=[.int .i64,.int .i64,.int .i64,.int .i64,.int .i64,.int .i64,.bool]
def ZoD (c:Cap):ShsT ZkB:=(c.kind,c.base,c.bits,c.rights,c.width,c.level,c.device)
theorem Wq {γ:Type} {l:List Cap} {i:Nat} (h:i < l.length) (k:ShsT ZkB→Option γ):Zt (l.map ZkR) (i:Int) ZkB k=k (ZoD l[i]):=Vo (fun _=>rfl) h k
def atP {α:Type} (q:α→Bool) (p:List α) (i:Nat):Bool:=match p[i]? with | some x=>q x | none=>false
theorem Zcp {α:Type} (q:α→Bool) {p:List α} {i:Nat} (h:i < p.length):atP q p i=q p[i]:=by unfold atP;rw [List.getElem?_eq_getElem h]
def idE (i:Id) (e:Zq):Bool:=decide (e.node.id=i)
def plE (c s:Int) (e:Zq):Bool:=decide (e.core=c)&&decide (e.slot=s)
theorem ZuB (l:List Zq) (hn:l.length < 2^63) (j:Id):ZrP (l.map Ze) j.core j.op j.part=some (ZfK l.length (Zas (idE j) l)):=by
 rw [ZnK]
 exact Zfn (F:=fun k z=>ZcH k (l.map Ze) j.core j.op j.part z) (n:=l.length) (fun m=>ZfK l.length m) (atP (idE j) l) hn
  (fun k i hi=>by
   show ZcH (k+1) _ _ _ _ _=_
   rw [Zfk,List.length_map,if_pos (ZfZ hi)]
   refine (Z0 hi _).trans ?_
   simp only [J2,d2,d4,d8,d16]
   rw [Zd9 hi hn,Zcp _ hi,Zf5 hi,idE]
   refine KC (fun h1=>?_) fun h1=>?_
   ·rw [if_pos (by rw [Km] at h1;rw [decide_eq_true_eq];exact h1)]
   ·rw [if_neg (by rw [Km] at h1;rw [decide_eq_true_eq];exact h1)])
  (fun k=>by
   show ZcH (k+1) _ _ _ _ _=_
   rw [Zfk,List.length_map,if_neg (Zgp (Nat.le_refl _)),ZfK,if_neg (Nat.lt_irrefl _)]) (Zas (idE j) l) (Wf _ l) (fun i hi=>by
    have hl:=Wf (idE j) l
    rw [Zcp _ (by omega)];exact ZcL _ l i (by omega) hi) (fun h=>by rw [Zcp _ h];exact Zce _ l h)
theorem ZvD (l:List Zq) (hn:l.length < 2^63) (c s:Int):Ztf (l.map Ze) c s=some (ZfK l.length (Zas (plE c s) l)):=by
 rw [Zns]
 exact Zfn (F:=fun k z=>Zbl k (l.map Ze) c s z) (n:=l.length) (fun m=>ZfK l.length m) (atP (plE c s) l) hn
  (fun k i hi=>by
   show Zbl (k+1) _ _ _ _=_
   rw [Zfe,List.length_map,if_pos (ZfZ hi)]
   refine (Z0 hi _).trans ?_
   simp only [J2,d2,d4,d8,d16]
   rw [Zd9 hi hn,Zcp _ hi,Zf5 hi,plE]
   refine KC (fun h1=>?_) fun h1=>?_
   ·simp only [CQ] at h1
    refine (Z0 hi _).trans ?_
    simp only [J2,d2,d4,d8,d16]
    refine KC (fun h2=>?_) fun h2=>?_
    ·simp only [CQ] at h2
     rw [if_pos (by simp [h1,h2])]
    ·simp only [CQ] at h2
     rw [if_neg (by simp [h2])]
   ·simp only [CQ] at h1
    rw [if_neg (by simp [h1])])
  (fun k=>by
   show Zbl (k+1) _ _ _ _=_
   rw [Zfe,List.length_map,if_neg (Zgp (Nat.le_refl _)),ZfK,if_neg (Nat.lt_irrefl _)]) (Zas (plE c s) l) (Wf _ l) (fun i hi=>by
    have hl:=Wf (plE c s) l
    rw [Zcp _ (by omega)];exact ZcL _ l i (by omega) hi) (fun h=>by rw [Zcp _ h];exact Zce _ l h)
structure Zab (l:List Zq):Prop where
 len:l.length≤100
 path:∀ e∈l,e.node.path.length≤20
theorem s11 (l:List Zq) (h:Zab l):g11 (l.map Ze)=some (l.map Ze):=by
 rw [Zpc]
 have hn:l.length < 2^63:=by have:=h.len;omega
 refine (ZmZ (F:=fun k acc i=>Zif k (l.map Ze) acc i) l (fun r=>[Ze r]) hn (fun k i hi=>?_) (fun k acc i hi=>?_)).trans (by rw [Zhi])
 ·show Zif (k+1) _ _ _=_
  rw [Zg5,List.length_map,if_pos (ZfZ hi)]
  refine (Z0 hi _).trans ?_
  simp only [J2,d2,d4,d8,d16]
  refine (Z0 hi _).trans ?_
  refine (Z0 hi _).trans ?_
  have hp:=h.path l[i] (List.getElem_mem hi)
  simp only [J2,d2,d4,d8,d16]
  rw [s13 l[i].node (by omega),Option.bind_some]
  refine (Zz (ZH ?_ (by omega)) _).trans ?_
  ·rw [Zhi]
   have:=h.len
   simp only [List.length_map,List.length_take,List.length_append,List.length_cons,List.length_nil]
   omega
  ·rw [Zd9 hi hn]
   rfl
 ·show Zif (k+1) _ _ _=_
  rw [Zg5,List.length_map,if_neg (Zgp hi)]
def ZoE (l:List Zq) (x:Zq) (r:List Zq):Prop:=∃ i,i≤l.length∧(∀ j (h:j < l.length),j < i→lte x l[j]=false)∧(∀ h:i < l.length,lte x l[i]=true)∧l.any (idE x.node.id)=false∧l.any (plE x.core x.slot)=false∧r=l.take i++[x]++l.drop i
theorem Zmy {α:Type} (q:α→Bool) (l:List α) (h:¬ cop .geq (ZfK l.length (Zas q l)) 0=true):l.any q=false:=by
 rw [ZgF,decide_eq_true_eq] at h
 rw [List.any_eq_false]
 intro x hx
 obtain ⟨i,hi,rfl⟩:=List.getElem_of_mem hx
 have:=ZcL q l i hi (by omega)
 simp [this]
theorem Zi0 {l m:List Zq} (h:Zab l) (hs:∀ e∈m,e∈l) (hl:m.length≤l.length):Zab m:=⟨by have:=h.len;omega,fun e he=>h.path e (hs e he)⟩
theorem s53 (l:List Zq) (h:Zab l) (x:Zq) (hx:x.node.path.length≤20):Ret (fun r=>r=(E0,false)∨∃ m,ZoE l x m∧r=(m.map Ze,true)) (g53 (l.map Ze) x.core x.slot x.node.id.core x.node.id.op x.node.id.part (Zb x.node.path) x.node.cap.kind x.node.cap.base x.node.cap.bits x.node.cap.rights x.node.cap.width x.node.cap.level x.node.cap.device):=by
 have hn:l.length < 2^63:=by have:=h.len;omega
 rw [Zp7,ZuB l hn x.node.id,Option.bind_some]
 refine Zc (fun _=>Zf (.inl rfl)) fun h1=>?_
 rw [ZvD l hn,Option.bind_some]
 refine Zc (fun _=>Zf (.inl rfl)) fun h2=>?_
 have n1:=Zmy _ _ h1
 have n2:=Zmy _ _ h2
 have ins:∀ (i:Nat),i≤l.length→(∀ j (h:j < l.length),j < i→lte x l[j]=false)→(∀ h:i < l.length,lte x l[i]=true)→Ret (fun r=>r=(E0,false)∨∃ m,ZoE l x m∧r=(m.map Ze,true)) (ZA ((0:Int)≤(i:Int))<|ZA ((i:Int)≤(List.length (l.map Ze):Int))<|
   (g11 (List.take (Int.toNat (i:Int)) (l.map Ze))).bind fun (r29:LL)=>(g13 x.node.id.core x.node.id.op x.node.id.part (Zb x.node.path) x.node.cap.kind x.node.cap.base x.node.cap.bits x.node.cap.rights x.node.cap.width x.node.cap.level x.node.cap.device).bind fun r30=>
   ZA (Jb r29 (E0++[[I x.core,I x.slot,I r30.1,I r30.2.1,I r30.2.2.1,AV.slice false 3 r30.2.2.2.1,I r30.2.2.2.2.1,I r30.2.2.2.2.2.1,I r30.2.2.2.2.2.2.1,I r30.2.2.2.2.2.2.2.1,I r30.2.2.2.2.2.2.2.2.1,I r30.2.2.2.2.2.2.2.2.2.1,AV.val (.bool r30.2.2.2.2.2.2.2.2.2.2)]]) 120)<|
   ZA ((0:Int)≤(i:Int))<|ZA ((i:Int)≤(List.length (l.map Ze):Int))<|(g11 (List.drop (Int.toNat (i:Int)) (l.map Ze))).bind fun (r41:LL)=>
   ZA (Jb (r29++(E0++[[I x.core,I x.slot,I r30.1,I r30.2.1,I r30.2.2.1,AV.slice false 3 r30.2.2.2.1,I r30.2.2.2.2.1,I r30.2.2.2.2.2.1,I r30.2.2.2.2.2.2.1,I r30.2.2.2.2.2.2.2.1,I r30.2.2.2.2.2.2.2.2.1,I r30.2.2.2.2.2.2.2.2.2.1,AV.val (.bool r30.2.2.2.2.2.2.2.2.2.2)]])) r41 120)<|
   some (((r29++(E0++[[I x.core,I x.slot,I r30.1,I r30.2.1,I r30.2.2.1,AV.slice false 3 r30.2.2.2.1,I r30.2.2.2.2.1,I r30.2.2.2.2.2.1,I r30.2.2.2.2.2.2.1,I r30.2.2.2.2.2.2.2.1,I r30.2.2.2.2.2.2.2.2.1,I r30.2.2.2.2.2.2.2.2.2.1,AV.val (.bool r30.2.2.2.2.2.2.2.2.2.2)]]))++r41),true)):=by
  intro i hi hlo hhi
  have hl:=h.len
  refine Zp (by omega) (Zp (by rw [List.length_map];omega) ?_)
  rw [Int.toNat_natCast,← List.map_take,← List.map_drop,s11 _ (Zi0 h (fun e he=>List.mem_of_mem_take he) (by simp;omega)),Option.bind_some,s13 x.node (by omega),Option.bind_some]
  refine Zp (ZH (by simp;omega) (by omega)) (Zp (by omega) (Zp (by rw [List.length_map];omega) ?_))
  rw [s11 _ (Zi0 h (fun e he=>List.mem_of_mem_drop he) (by simp)),Option.bind_some]
  refine Zp (ZH (by simp;omega) (by omega)) (Zf (.inr ⟨_,⟨i,hi,hlo,hhi,n1,n2,rfl⟩,?_⟩))
  simp [Ze,Zm0]
 refine WE (F:=fun k (_:Unit) z=>Zh2 k (l.map Ze) x.core x.slot x.node.id.core x.node.id.op x.node.id.part (Zb x.node.path) x.node.cap.kind x.node.cap.base x.node.cap.bits x.node.cap.rights x.node.cap.width x.node.cap.level x.node.cap.device z) (n:=l.length) (fun i _=>∀ j (h:j < l.length),j < i→lte x l[j]=false) hn (fun k i _ hi hJ ih=>?_) (fun k _ hJ=>?_) () (fun j _ h0=>absurd h0 (Nat.not_lt_zero _))
 ·show Ret _ (Zh2 (k+1) _ _ _ _ _ _ _ _ _ _ _ _ _ _ _)
  rw [Zg7,List.length_map,if_pos (ZfZ hi)]
  refine Zh (Z0 hi _) ?_
  simp only [J2,d2,d4,d8,d16]
  rw [ZvV,Option.bind_some]
  refine Zc (fun hc=>?_) fun hc=>?_
  ·rw [Zd9 hi hn]
   refine ih () fun j h1 h2=>?_
   by_cases hji:j < i
   ·exact hJ j h1 hji
   ·have:j=i:=by omega
    subst this
    rw [Bool.not_eq_true'] at hc
    exact hc
  ·have:=ins i (by omega) hJ fun _=>by rw [Bool.not_eq_true',Bool.not_eq_false] at hc;exact hc
   rw [List.length_map] at this
   exact this
 ·show Ret _ (Zh2 (k+1) _ _ _ _ _ _ _ _ _ _ _ _ _ _ _)
  rw [Zg7,List.length_map,if_neg (Zgp (Nat.le_refl _))]
  have:=ins l.length (Nat.le_refl _) hJ fun h=>absurd h (Nat.lt_irrefl _)
  rw [List.length_map] at this
  exact this
theorem s80 (l:List Zq) (h:Zab l) (x:Zq) (hx:x.node.path.length≤20):Ret (fun r=>∃ m,(m=l∨ZoE l x m)∧r=m.map Ze) (g80 (l.map Ze) x.core x.slot x.node.id.core x.node.id.op x.node.id.part (Zb x.node.path) x.node.cap.kind x.node.cap.base x.node.cap.bits x.node.cap.rights x.node.cap.width x.node.cap.level x.node.cap.device):=by
 rw [Zpq]
 refine ZJ (s53 l h x hx) fun r hr=>?_
 rcases hr with rfl | ⟨m,hm,rfl⟩
 ·exact Zc (fun _=>Zf ⟨l,.inl rfl,rfl⟩) fun h=>absurd rfl h
 ·exact Zc (fun h=>absurd h (by simp)) fun _=>Zf ⟨m,.inr hm,rfl⟩
structure ZiR (s:ZbI) (i:Id) (c:Cap):Prop where
 src:YJ s=true
 id:V2 i=true
 cap:KS c=true
 ne:i≠s.id
 fresh:s.path.contains i=false
 room:s.path.length < 8
def Zba (s:ZbI) (i:Id) (c:Cap):ZbI:=⟨i,s.path++[s.id],c⟩
theorem s83 (s:ZbI) (hs:s.path.length≤20) (i:Id) (c:Cap):Ret (fun r=>(∃ e:Int,e≠0∧r=(0,0,0,E0,0,0,0,0,0,0,false,e))∨(ZiR s i c∧r=(i.core,i.op,i.part,Zb (s.path++[s.id]),c.kind,c.base,c.bits,c.rights,c.width,c.level,c.device,0)))
  (g83 s.id.core s.id.op s.id.part (Zb s.path) s.cap.kind s.cap.base s.cap.bits s.cap.rights s.cap.width s.cap.level s.cap.device i.core i.op i.part c.kind c.base c.bits c.rights c.width c.level c.device):=by
 rw [Zpl,Zvc s (by omega),Option.bind_some]
 refine Zc (fun _=>Zf (.inl ⟨1,by omega,rfl⟩)) fun h1=>?_
 rw [ZtZ,Option.bind_some]
 refine Zc (fun _=>Zf (.inl ⟨1,by omega,rfl⟩)) fun h2=>?_
 rw [ZtT,Option.bind_some]
 refine Zc (fun _=>Zf (.inl ⟨1,by omega,rfl⟩)) fun h3=>?_
 refine Zc (fun _=>Zf (.inl ⟨1,by omega,rfl⟩)) fun h4=>?_
 rw [Km] at h4
 rw [s16 s.path (by omega),Option.bind_some]
 refine Zc (fun _=>Zf (.inl ⟨1,by omega,rfl⟩)) fun h5=>?_
 refine Zc (fun _=>Zf (.inl ⟨9,by omega,rfl⟩)) fun h6=>?_
 rw [s39 s.path (by omega),Option.bind_some]
 refine Zp (ZH (by rw [Z5];simp;omega) (by omega)) (Zf (.inr ⟨?_,?_⟩))
 ·simp only [Bool.not_eq_true',Bool.not_eq_false] at h1 h2 h3
  simp only [Bool.not_eq_true] at h5
  have h8:=ZfB h1
  simp only [CQ,Z5] at h6
  exact ⟨h1,h2,h3,h4,h5,by omega⟩
 ·simp [Zb,idc]
end Go.Proofs.YtlgmnddelljbmaaGreat
end

section
namespace Go.Proofs.YtlgmnddelljbmaaGreat
open Go Go.AM
set_option linter.unusedSimpArgs false
set_option linter.unusedVariables false
set_option maxRecDepth 100000
theorem ZsG {a b:Int} (h0:0≤b) (h1:b≤62) (h2:0≤a) (h3:a*2^b.toNat < 2^63):iop .shl .i64 a b=a*2^b.toNat:=by
 have hmin:min b.toNat IntKind.i64.bits=b.toNat:=by
  have:IntKind.i64.bits=64:=rfl
  omega
 simp only [iop,hmin]
 have hp:=J0 b.toNat
 have:0≤a*2^b.toNat:=Int.mul_nonneg h2 (by omega)
 rw [W6 (by omega) h3]
theorem ZvJ (a b:Int):Ret (fun r=>∃ k q:Int,r=(q*2^k.toNat,k)∧6≤k∧k≤16∧0≤q∧q < 2^(16-k).toNat) (Zsd a b):=by
 rw [ZnN]
 refine ZJ (place b 11 (by omega) (by omega)) fun x hx=>?_
 obtain ⟨k,hk⟩:∃ k,k=6+x:=⟨_,rfl⟩
 have e1:iop .add .i64 6 x=k:=by rw [Kg (by omega) (by omega),hk]
 have e2:iop .sub .i64 16 k=16-k:=ZlX (by omega) (by omega)
 have w1:IntKind.wrap .u64 (16-k)=16-k:=Kx (by omega) (by omega)
 have w2:IntKind.wrap .u64 k=k:=Kx (by omega) (by omega)
 have hp:(2:Int)^(16-k).toNat < 2^62:=by
  have:=Zim (m:=(16-k).toNat) (n:=16) (by omega)
  have e:(2:Int)^16=65536:=by decide
  have e:(2:Int)^62=4611686018427387904:=by decide
  omega
 have hp1:=J0 (16-k).toNat
 rw [e1,e2,w1,w2,ZoG (by omega)]
 refine Zp (by omega) (ZJ (place a _ (by omega) hp) fun q hq=>Zp (by omega) (Zf ⟨k,q,?_,by omega,by omega,hq.1,hq.2⟩))
 have hm:q*2^k.toNat < 2^63:=by
  have h1:q*2^k.toNat≤2^(16-k).toNat*2^k.toNat:=Int.mul_le_mul_of_nonneg_right (by omega) (by have:=J0 k.toNat;omega)
  rw [← Int.pow_add,show (16-k).toNat+k.toNat=16 by omega] at h1
  have e:(2:Int)^16=65536:=by decide
  have e:(2:Int)^63=9223372036854775808:=by decide
  omega
 rw [ZsG (by omega) (by omega) hq.1 hm]
theorem s78 (a b:Int):Ret (fun r=>∃ c:Cap,r=ZoD c∧KS c=true) (g78 a b):=by
 rw [Zpf]
 refine ZJ (ZvJ a b) fun r ⟨k,q,hr,h1,h2,h3,h4⟩=>?_
 subst hr
 refine Zf ⟨⟨1,q*2^k.toNat,k,7,0,0,false⟩,rfl,?_⟩
 have hm:(q+1)*2^k.toNat≤65536:=by
  have h5:(q+1)*2^k.toNat≤2^(16-k).toNat*2^k.toNat:=Int.mul_le_mul_of_nonneg_right (by omega) (by have:=J0 k.toNat;omega)
  rw [← Int.pow_add,show (16-k).toNat+k.toNat=16 by omega] at h5
  have e:(2:Int)^16=65536:=by decide
  omega
 rw [Int.add_mul,Int.one_mul] at hm
 have h6:0≤q*2^k.toNat:=Int.mul_nonneg h3 (by have:=J0 k.toNat;omega)
 have h7:q*2^k.toNat % 2^k.toNat=0:=Int.mul_emod_left ..
 simp [KS,KX,Kp,h6,h7]
 omega
theorem Zlq (c:Cap) (obj bits level width off cnt:Int):∃ cs:List Cap,Vp c obj bits level width off cnt=cs.map ZkR∧(cs.length:Int)≤max 0 cnt:=by
 unfold Vp
 split
 ·refine ⟨(List.range cnt.toNat).map fun (j:Nat)=>⟨obj,c.base+off+(j:Int)*2^bits.toNat,bits,c.rights,if obj=3 then width else 0,if obj=3 then level else 0,c.device⟩,?_,by simp;omega⟩
  rw [List.map_map];rfl
 ·exact ⟨[],rfl,by simp;omega⟩
theorem l79 (rec0:List V→Option Bool) (l:List Zq) (hn:l.length < 2^63) (cs:List Cap) (m i:Nat) (hi:i < cs.length) (ih':Ret (fun _=>True) (rec0 [.l (l.map Ze),.l (cs.map ZkR),.i (ZfK l.length m),.i (iop .add .i64 (i:Int) 1)])) :
  Ret (fun _=>True) (Za1 rec0 Jn (l.map Ze) (cs.map ZkR) (ZfK l.length m) (i:Int) 0):=by
 refine WE (P:=fun _=>True) (F:=fun k2 (_:Unit) z=>Za1 rec0 k2 (l.map Ze) (cs.map ZkR) (ZfK l.length m) (i:Int) z) (n:=l.length) (fun _ _=>True) hn (fun k2 t _ ht _ ih2=>?_) (fun k2 _ _=>?_) () trivial
 ·show Ret _ (Za1 _ (k2+1) _ _ _ _ _)
  rw [ZgK,List.length_map,if_pos (ZfZ ht)]
  refine Zh (Z0 ht _) ?_
  simp only [J2,d2,d4,d8,d16]
  have nxt:Ret (fun _=>True) (Za1 rec0 k2 (l.map Ze) (cs.map ZkR) (ZfK l.length m) (i:Int) (iop .add .i64 (t:Int) 1)):=by rw [Zd9 ht hn];exact ih2 () trivial
  refine Zc (fun h1=>?_) fun h1=>?_
  ·rw [ZgF,decide_eq_true_eq] at h1
   refine Zc (fun h2=>?_) fun h2=>?_
   ·rw [Zmt,Option.bind_some]
    refine Zh (congrArg (fun z=>Zt (l.map Ze) z _ _) (Zf5 h1)) ?_
    refine Zh (Z0 h1 _) ?_
    simp only [J2,d2,d4,d8,d16]
    rw [Zmt,Option.bind_some,Zvn,Option.bind_some,Option.bind_some]
    refine Zh (Wq hi _) ?_
    simp only [ZoD]
    rw [Zmt,Option.bind_some,ZsV,Option.bind_some]
    exact Zc (fun _=>Zc (fun _=>Zf trivial) fun _=>nxt) fun _=>nxt
   ·rw [Zmt,Option.bind_some]
    refine Zh (Wq hi _) ?_
    simp only [ZoD]
    rw [Zmt,Option.bind_some,ZsV,Option.bind_some]
    exact Zc (fun _=>Zf trivial) fun _=>nxt
  ·rw [Zmt,Option.bind_some]
   refine Zh (Wq hi _) ?_
   simp only [ZoD]
   rw [Zmt,Option.bind_some,ZsV,Option.bind_some]
   exact Zc (fun _=>Zf trivial) fun _=>nxt
 ·show Ret _ (Za1 _ (k2+1) _ _ _ _ _)
  rw [ZgK,List.length_map,if_neg (Zgp (Nat.le_refl _))]
  exact ih'
theorem s79 (l:List Zq) (hn:l.length < 2^63) (j:Id) (cs:List Cap) (hc:cs.length < 2^63):Ret (fun _=>True) (g79 (l.map Ze) j.core j.op j.part (cs.map ZkR)):=by
 rw [Zpv,ZuB l hn j,Option.bind_some]
 generalize hm:Zas (idE j) l=m
 refine WE (F:=fun k (_:Unit) z=>Zir k (l.map Ze) (cs.map ZkR) (ZfK l.length m) z) (n:=cs.length) (fun _ _=>True) hc (fun k i _ hi _ ih=>?_) (fun k _ _=>?_) () trivial
 ·show Ret _ (Zir (k+1) _ _ _ _)
  rw [Zgt,List.length_map,if_pos (ZfZ hi)]
  exact l79 _ l hn cs m i hi (by rw [Zd9 hi hc];exact ih () trivial)
 ·show Ret _ (Zir (k+1) _ _ _ _)
  rw [Zgt,List.length_map,if_neg (Zgp (Nat.le_refl _))]
  exact Zf trivial
structure EOk (e:Zq):Prop where
 c0:0≤e.core
 c1:e.core < 4
 s0:0≤e.slot
 s1:e.slot < 16
 ic:e.node.id.core=e.core
 o1:1≤e.node.id.op
 o2:e.node.id.op≤40
 p0:0≤e.node.id.part
 p1:e.node.id.part < 3
 ok:YJ e.node=true
 pa:∀ i∈e.node.path,i.op≤40
structure FOk (l:List Zq) (n:Nat):Prop where
 len:l.length≤n
 all:∀ e∈l,EOk e
 asc:l.Pairwise fun a b=>lte a b=true
 pl:l.Pairwise fun a b=>¬ (a.core=b.core∧a.slot=b.slot)
theorem YU {n:ZbI} (h:YJ n=true):V2 n.id=true∧KS n.cap=true∧n.path.length≤8∧(List.range n.path.length).all (KI n)=true:=by
 simp only [YJ,Bool.and_eq_true,decide_eq_true_eq] at h
 exact ⟨h.1.1.1,h.1.1.2,h.1.2,h.2⟩
theorem FOk.few {l:List Zq} {n:Nat} (h:FOk l n) (hn:n≤100):Zab l:=⟨by have:=h.len;omega,fun e he=>by have:=(YU (h.all e he).ok).2.2.1;omega⟩
theorem Vy {a b:Zq} : lte a b=true↔(a.node.id.core < b.node.id.core∨(a.node.id.core=b.node.id.core∧(a.node.id.op < b.node.id.op∨(a.node.id.op=b.node.id.op∧a.node.id.part < b.node.id.part)))):=by simp [lte,Zrn,ZoC]
theorem Zi1 {a b c:Zq} (h1:lte a b=true) (h2:lte b c=true):lte a c=true:=by
 rw [Vy] at *; omega
theorem ZkQ {a b:Zq} (h:lte a b=false) (hne:a.node.id≠b.node.id):lte b a=true:=by
 rw [← Bool.not_eq_true,Vy] at h
 rw [Vy]
 have:¬ (a.node.id.core=b.node.id.core∧a.node.id.op=b.node.id.op∧a.node.id.part=b.node.id.part):=fun ⟨e1,e2,e3⟩=>hne (by cases ha:a.node.id;cases hb:b.node.id;simp_all)
 omega
theorem ZlG {l m:List Zq} {x:Zq} (h:l.Pairwise fun a b=>lte a b=true) (ha:ZoE l x m):m.Pairwise fun a b=>lte a b=true:=by
 obtain ⟨i,hi,hlo,hhi,hid,_,rfl⟩:=ha
 have hge:∀ j (hj:j < l.length),i≤j→lte x l[j]=true:=by
  intro j hj hij
  have h1:lte x (l[i]'(by omega))=true:=hhi (by omega)
  by_cases hji:j=i
  ·subst hji;exact h1
  ·exact Zi1 h1 (List.pairwise_iff_getElem.1 h i j (by omega) hj (by omega))
 rw [List.pairwise_append,List.pairwise_append]
 refine ⟨⟨h.take,List.pairwise_singleton ..,fun a ha b hb=>?_⟩,h.drop,fun a ha b hb=>?_⟩
 ·rw [List.mem_singleton] at hb
  subst hb
  obtain ⟨j,hj,rfl⟩:=List.getElem_of_mem ha
  rw [List.length_take] at hj
  rw [List.getElem_take]
  refine ZkQ (hlo j (by omega) (by omega)) fun he=>?_
  rw [List.any_eq_false] at hid
  have:=hid _ (List.getElem_mem (show j < l.length by omega))
  rw [idE,decide_eq_true_eq] at this
  exact this he.symm
 ·obtain ⟨k,hk,rfl⟩:=List.getElem_of_mem hb
  rw [List.length_drop] at hk
  rw [List.getElem_drop]
  rw [List.mem_append,List.mem_singleton] at ha
  rcases ha with ha | rfl
  ·obtain ⟨j,hj,rfl⟩:=List.getElem_of_mem ha
   rw [List.length_take] at hj
   rw [List.getElem_take]
   exact List.pairwise_iff_getElem.1 h j (i+k) (by omega) (by omega) (by omega)
  ·exact hge (i+k) (by omega) (by omega)
theorem Zoo {l m:List Zq} {x:Zq} (h:l.Pairwise fun a b=>¬ (a.core=b.core∧a.slot=b.slot)) (ha:ZoE l x m):m.Pairwise fun a b=>¬ (a.core=b.core∧a.slot=b.slot):=by
 obtain ⟨i,hi,_,_,_,hpl,rfl⟩:=ha
 have hp:(l.take i++[x]++l.drop i).Perm (x::l):=by
  have:=List.perm_middle (a:=x) (l₁:=l.take i) (l₂:=l.drop i)
  rw [List.append_assoc,List.singleton_append]
  rw [List.take_append_drop] at this
  exact this
 refine (hp.pairwise_iff (fun h hc=>h ⟨hc.1.symm,hc.2.symm⟩)).2 (List.pairwise_cons.2 ⟨fun e he hc=>?_,h⟩)
 rw [List.any_eq_false] at hpl
 exact hpl e he (by simp [plE,hc.1,hc.2])
theorem ZiX {l m:List Zq} {x:Zq} {n:Nat} (h:FOk l n) (hx:EOk x) (ha:m=l∨ZoE l x m):FOk m (n+1):=by
 rcases ha with rfl | ha
 ·exact ⟨by have:=h.len;omega,h.all,h.asc,h.pl⟩
 ·have hasc:=ZlG h.asc ha
  have hapl:=Zoo h.pl ha
  obtain ⟨i,hi,_,_,_,_,rfl⟩:=ha
  refine ⟨by have:=h.len;simp;omega,fun e he=>?_,hasc,hapl⟩
  simp only [List.mem_append,List.mem_singleton] at he
  rcases he with (he | rfl) | he
  ·exact h.all e (List.mem_of_mem_take he)
  ·exact hx
  ·exact h.all e (List.mem_of_mem_drop he)
theorem Zom (i:Id) (c:Cap) (hi:V2 i=true) (hc:KS c=true):YJ ⟨i,[],c⟩=true:=by simp [YJ,hi,hc]
theorem ZgE {s:ZbI} {i:Id} {c:Cap} (h:ZiR s i c):YJ (Zba s i c)=true:=by
 obtain ⟨k1,k2,k3,k4⟩:=YU h.src
 have hr:=h.room
 simp only [YJ,Zba,Bool.and_eq_true,decide_eq_true_eq,h.id,h.cap,true_and,List.length_append,List.length_cons,List.length_nil]
 refine ⟨by omega,?_⟩
 rw [List.all_eq_true] at k4 ⊢
 intro j hj
 rw [List.mem_range] at hj
 by_cases hjl:j < s.path.length
 ·have:=k4 j (List.mem_range.2 hjl)
  simp only [KI,List.getElem?_eq_getElem hjl] at this
  simp only [KI,List.getElem?_append_left hjl,List.getElem?_eq_getElem hjl,List.take_append_of_le_length (Nat.le_of_lt hjl)]
  simp only [Bool.and_eq_true,decide_eq_true_eq] at this ⊢
  refine ⟨⟨this.1.1,fun he=>?_⟩,this.2⟩
  have hf:=h.fresh
  rw [← he] at hf
  simp at hf
 ·have hje:j=s.path.length:=by omega
  subst hje
  simp only [KI,List.getElem?_append_right (Nat.le_refl _),Nat.sub_self,List.getElem?_cons_zero,List.take_left]
  simp only [Bool.and_eq_true,decide_eq_true_eq]
  refine ⟨⟨k1,fun he=>h.ne he.symm⟩,?_⟩
  rw [Bool.not_eq_true',← Bool.not_eq_true,List.contains_iff_mem]
  intro hm
  obtain ⟨t,ht,hte⟩:=List.getElem_of_mem hm
  have:=k4 t (List.mem_range.2 ht)
  simp only [KI,List.getElem?_eq_getElem ht,hte] at this
  simp at this
theorem l37 (src:ZbI) (hs:src.path.length≤20) (hso:src.id.op≤40) (hsp:∀ i∈src.path,i.op≤40) (root:Bool) (op core slot:Int) (hc0:0≤core) (hc1:core < 4) (hs0:0≤slot) (hs1:slot < 8) (h1:1≤op) (h2:op≤40) (cs:List Cap) (hcs:cs.length≤3) (l:List Zq) (n:Nat) (hn:n≤60) (h:FOk l n) :
  Ret (fun r=>∃ m,FOk m (n+3)∧r=m.map Ze) (ZeF Jn (l.map Ze) op core slot src.id.core src.id.op src.id.part (Zb src.path) src.cap.kind src.cap.base src.cap.bits src.cap.rights src.cap.width src.cap.level src.cap.device (cs.map ZkR) 0):=by
 refine WE (F:=fun k (s:LL) z=>ZeF k s op core slot src.id.core src.id.op src.id.part (Zb src.path) src.cap.kind src.cap.base src.cap.bits src.cap.rights src.cap.width src.cap.level src.cap.device (cs.map ZkR) z) (n:=cs.length) (fun i s=>∃ m,FOk m (n+i)∧s=m.map Ze) (by omega) (fun k i s hi hj ih=>?_) (fun k s hj=>?_) _ ⟨l,h,rfl⟩
 ·obtain ⟨m,hm,rfl⟩:=hj
  show Ret _ (ZeF (k+1) _ _ _ _ _ _ _ _ _ _ _ _ _ _ _ _ _)
  rw [Zg2,List.length_map,if_pos (ZfZ hi)]
  refine Zh (Wq hi _) ?_
  simp only [ZoD]
  refine ZJ (s83 src hs ⟨core,op,(i:Int)⟩ cs[i]) fun r hr=>?_
  rcases hr with ⟨e,he,rfl⟩ | ⟨hk,rfl⟩
  ·refine Zc (fun _=>Zf ⟨m,⟨by have:=hm.len;omega,hm.all,hm.asc,hm.pl⟩,rfl⟩) fun hh=>?_
   simp only [CQ] at hh
   exact absurd hh (by omega)
  ·refine Zc (fun hh=>absurd hh (by simp [cop])) fun _=>?_
   have ho:=YU (ZgE hk)
   have hx:EOk ⟨core,slot+i,Zba src ⟨core,op,(i:Int)⟩ cs[i]⟩:=⟨hc0,hc1,by show 0≤slot+i;omega,by show slot+i < 16;omega,rfl,h1,h2,by show (0:Int)≤i;omega,by show (i:Int) < 3;omega,ZgE hk,fun i hi=>by rcases List.mem_append.1 hi with h | h;exact hsp i h;rw [List.mem_singleton.1 h];exact hso⟩
   have ea:iop .add .i64 slot (i:Int)=slot+i:=Kg (by omega) (by omega)
   rw [ea]
   refine ZJ (s80 m (hm.few (by omega)) ⟨core,slot+i,Zba src ⟨core,op,(i:Int)⟩ cs[i]⟩ (by have:=ho.2.2.1;show (Zba src ⟨core,op,(i:Int)⟩ cs[i]).path.length≤20;omega)) fun r ⟨m',hm',hr⟩=>?_
   subst hr
   rw [Zd9 hi (by omega)]
   exact ih _ ⟨m',ZiX hm hx hm',rfl⟩
 ·obtain ⟨m,hm,rfl⟩:=hj
  show Ret _ (ZeF (k+1) _ _ _ _ _ _ _ _ _ _ _ _ _ _ _ _ _)
  rw [Zg2,List.length_map,if_neg (Zgp (Nat.le_refl _))]
  exact Zf ⟨m,⟨by have:=hm.len;omega,hm.all,hm.asc,hm.pl⟩,rfl⟩
theorem ZuG (l:List Zq) (n:Nat) (hn:n≤60) (h:FOk l n) (core slot op base bits:Int) (hc0:0≤core) (hc1:core < 4) (hs0:0≤slot) (hs1:slot < 8) (h1:1≤op) (h2:op≤40) :
    Ret (fun r=>∃ m,FOk m (n+3)∧r=m.map Ze) ((g78 base bits).bind fun r14=>
 (g79 (l.map Ze) 0 0 0 (E0++[[I r14.1,I r14.2.1,I r14.2.2.1,I r14.2.2.2.1,I r14.2.2.2.2.1,I r14.2.2.2.2.2.1,AV.val (.bool r14.2.2.2.2.2.2)]])).bind fun (r21:Bool)=>
 if r21=true then some (l.map Ze) else
 (g80 (l.map Ze) core slot core op 0 E0 r14.1 r14.2.1 r14.2.2.1 r14.2.2.2.1 r14.2.2.2.2.1 r14.2.2.2.2.2.1 r14.2.2.2.2.2.2).bind fun (r22:LL)=>some (r22)):=by
  refine ZJ (s78 base bits) fun r ⟨c,hr,hc⟩=>?_
  subst hr
  have hl:=h.len
  refine ZJ (s79 l (by omega) ⟨0,0,0⟩ [c] (by simp)) fun b _=>?_
  refine Zc (fun _=>Zf ⟨l,⟨by omega,h.all,h.asc,h.pl⟩,rfl⟩) fun _=>?_
  have hi:V2 ⟨core,op,0⟩=true:=by simp [V2];omega
  have hx:EOk ⟨core,slot,⟨⟨core,op,0⟩,[],c⟩⟩:=⟨hc0,hc1,hs0,by show slot < 16;omega,rfl,h1,h2,Int.le_refl _,by show (0:Int) < 3;omega,Zom _ _ hi hc,fun i hi=>by cases hi⟩
  refine ZJ (s80 l (h.few (by omega)) ⟨core,slot,⟨⟨core,op,0⟩,[],c⟩⟩ (by simp)) fun r ⟨m',hm',hr⟩=>?_
  subst hr
  have:=ZiX h hx hm'
  exact Zf ⟨m',⟨by have:=this.len;omega,this.all,this.asc,this.pl⟩,rfl⟩
theorem s37 (l:List Zq) (n:Nat) (hn:n≤60) (h:FOk l n) (root copy:Bool) (src core slot kind base bits count rights op:Int) (h1:1≤op) (h2:op≤40) :
  Ret (fun r=>∃ m,FOk m (n+3)∧r=m.map Ze) (g37 (l.map Ze) root src core slot kind base bits count rights copy op):=by
 have hl:=h.len
 rw [Zp1]
 refine ZJ (place core 4 (by omega) (by omega)) fun c hc=>ZJ (place slot 8 (by omega) (by omega)) fun s hs=>?_
 refine Zc (fun _=>ZuG l n hn h c s op base bits hc.1 hc.2 hs.1 hs.2 h1 h2) fun _=>?_
 refine Zc (fun _=>ZuG l n hn h c s op base bits hc.1 hc.2 hs.1 hs.2 h1 h2) fun h3=>?_
 simp only [CQ,List.length_map] at h3
 rw [List.length_map]
 refine ZJ (place src _ (by omega) (by omega)) fun i hi=>?_
 have hil:i.toNat < l.length:=by omega
 refine K2 hi.1 hil ?_
 simp only [J2,d2,d4,d8,d16]
 have he:=h.all _ (List.getElem_mem hil)
 have ho:=YU he.ok
 generalize l[i.toNat]=e at he ho
 refine ZJ (place rights 8 (by omega) (by omega)) fun r28 _=>?_
 rw [s81,Option.bind_some]
 refine Zc (fun _=>?_) fun _=>?_
 ·refine ZJ (place kind 6 (by omega) (by omega)) fun r36 h36=>ZJ (place bits 10 (by omega) (by omega)) fun r37 h37=>?_
  have e1:iop .add .i64 6 r37=6+r37:=Kg (by omega) (by omega)
  have e2:iop .sub .i64 (iop .add .i64 1 r36) 1=r36:=by rw [Kg (by omega) (by omega),ZlX (by omega) (by omega)];omega
  rw [e1,e2]
  refine Zfd (l:=[6+r37,12,12,6,10,16]) h36.1 (by simp;omega) ?_
  have hb:∀ x∈[6+r37,12,12,6,10,16],0≤x∧x≤16:=by
   intro x hx
   simp only [List.mem_cons,List.not_mem_nil,or_false] at hx
   omega
  have hb':=hb _ (List.getElem_mem (show r36.toNat < [6+r37,12,12,6,10,16].length by simp;omega))
  generalize [6+r37,12,12,6,10,16][r36.toNat]'(by simp;omega)=r38 at hb'
  refine ZJ (place rights 2 (by omega) (by omega)) fun r39 _=>ZJ (place base 8 (by omega) (by omega)) fun r40 _=>?_
  refine Zp (by rw [Kx (by omega) (by omega)];omega) (ZJ (place count 3 (by omega) (by omega)) fun r41 h41=>?_)
  rw [s82,Option.bind_some]
  refine Zc (fun _=>Zf ⟨l,⟨by omega,h.all,h.asc,h.pl⟩,rfl⟩) fun _=>?_
  obtain ⟨cs,hcs,hcl⟩:=Zlq ⟨e.node.cap.kind,e.node.cap.base,e.node.cap.bits,e.node.cap.rights,e.node.cap.width,e.node.cap.level,e.node.cap.device⟩ (iop .add .i64 1 r36) r38 r39 32 (iop .shl .i64 r40 (IntKind.wrap .u64 r38)) (iop .add .i64 1 r41)
  rw [hcs]
  have e3:iop .add .i64 1 r41=1+r41:=Kg (by omega) (by omega)
  rw [e3] at hcl
  refine ZJ (s79 l (by omega) e.node.id cs (by omega)) fun b _=>?_
  refine Zc (fun _=>Zf ⟨l,⟨by omega,h.all,h.asc,h.pl⟩,rfl⟩) fun _=>?_
  exact l37 e.node (by omega) he.o2 he.pa true op c s hc.1 hc.2 hs.1 hs.2 h1 h2 cs (by omega) l n hn h
 ·exact l37 e.node (by omega) he.o2 he.pa true op c s hc.1 hc.2 hs.1 hs.2 h1 h2 [⟨e.node.cap.kind,e.node.cap.base,e.node.cap.bits,iop .and .i64 e.node.cap.rights r28,e.node.cap.width,e.node.cap.level,e.node.cap.device⟩] (by simp) l n hn h
def ZnL (s:ZnS):Bool×Int×Int×Int×Int×Int×Int×Int×Int×Bool:=(s.root,s.src,s.core,s.slot,s.kind,s.base,s.bits,s.count,s.rights,s.copy)
theorem Zh6 {γ:Type} {l:List ZnS} {i:Nat} (h:i < l.length) (k:(Bool×Int×Int×Int×Int×Int×Int×Int×Int×Bool)→Option γ):Zt (l.map WK) (i:Int) [.bool,.int .i64,.int .i64,.int .i64,.int .i64,.int .i64,.int .i64,.int .i64,.int .i64,.bool] k=k (ZnL l[i]):=Vo (f:=WK) (sh:=[.bool,.int .i64,.int .i64,.int .i64,.int .i64,.int .i64,.int .i64,.int .i64,.int .i64,.bool]) (v:=ZnL) (fun _=>rfl) h k
theorem s7 (l:List ZnS) (hn:l.length < 2^63):Ret (fun r=>∃ m,FOk m 30∧r=m.map Ze) (g7 (l.map WK)):=by
 rw [Ztk]
 have key:∀ (d i fuel:Nat) (m:List Zq),i+d=41→d < fuel→FOk m 30→Ret (fun r=>∃ m,FOk m 30∧r=m.map Ze) (Zro fuel (l.map WK) (m.map Ze) (i:Int)):=by
  intro d
  induction d with
  | zero =>
   intro i fuel m hi hf hm
   obtain ⟨q,rfl⟩:∃ q,fuel=q+1:=⟨fuel-1,by omega⟩
   rw [Ziv]
   refine Zc (fun _=>?_) fun _=>Zf ⟨m,hm,rfl⟩
   rw [if_neg (by simp only [CQ];omega)]
   exact Zf ⟨m,hm,rfl⟩
  | succ d ih =>
   intro i fuel m hi hf hm
   obtain ⟨q,rfl⟩:∃ q,fuel=q+1:=⟨fuel-1,by omega⟩
   rw [Ziv]
   refine Zc (fun h1=>?_) fun _=>Zf ⟨m,hm,rfl⟩
   refine Zc (fun h2=>?_) fun _=>Zf ⟨m,hm,rfl⟩
   refine Zc (fun h3=>?_) fun _=>Zf ⟨m,hm,rfl⟩
   simp only [CQ,List.length_map] at h1 h2 h3
   have hil:i < l.length:=by omega
   refine Zh (Zh6 hil _) ?_
   simp only [ZnL]
   have e:iop .add .i64 (i:Int) 1=((i+1:Nat):Int):=Zd9 hil hn
   rw [e]
   refine ZJ (s37 m 27 (by omega) ⟨by omega,hm.all,hm.asc,hm.pl⟩ _ _ _ _ _ _ _ _ _ _ _ (by omega) (by omega)) fun r ⟨m',hm',hr⟩=>?_
   subst hr
   exact ih (i+1) q m' (by omega) (by omega) hm'
 exact key 41 0 Jn [] rfl (by have:=@Zff 41 (by omega);omega) ⟨by simp,by simp,List.Pairwise.nil,List.Pairwise.nil⟩
end Go.Proofs.YtlgmnddelljbmaaGreat
end

section
namespace Go.Proofs.YtlgmnddelljbmaaGreat
open Go Go.AM
set_option linter.unusedSimpArgs false
set_option linter.unusedVariables false
set_option maxRecDepth 100000
theorem ZrW (a b c:Int):ZqG a b c=some (V2 ⟨a,b,c⟩):=by
 rw [Zn7]
 repeat' split
 all_goals (refine congrArg some ?_;rw [Jf];simp only [V2,CQ] at *; omega)
theorem Zvf (a:Int):Znc a=some false:=by
 rw [ZjH]
 simp [cop]
theorem ZvN (a b:Int):Zqq a b=some (Zmz a b):=by
 rw [Zof]
 simp only [Zvf,Option.bind_some,Bool.false_eq_true,if_false]
 by_cases h1:a < b
 ·rw [if_pos (by simp only [CQ];omega),Zmz,if_pos h1]
 ·by_cases h2:b < a
  ·rw [if_neg (by simp only [CQ];omega),if_pos (by simp only [CQ];omega),Zmz,if_neg h1,if_pos h2]
  ·rw [if_neg (by simp only [CQ];omega),if_neg (by simp only [CQ];omega),Zmz,if_neg h1,if_neg h2]
theorem Zu7 (x y z:Int):Ztn (((E0++[[AV.val (.int .i64 x)]])++[[AV.val (.int .i64 y)]])++[[AV.val (.int .i64 z)]])=some (VN x y z):=by
 obtain ⟨f,hf⟩:=Zs0
 have e:(((E0++[[AV.val (.int .i64 x)]])++[[AV.val (.int .i64 y)]])++[[AV.val (.int .i64 z)]]) = [Zht x,Zht y,Zht z]:=rfl
 have e1:iop .add .i64 0 1=1:=by decide
 have e2:iop .add .i64 1 1=2:=by decide
 have e3:iop .add .i64 2 1=3:=by decide
 have hl:(([Zht x,Zht y,Zht z] : List (List AV)).length:Int)=3:=rfl
 rw [ZnH,e,hf,hl]
 rw [V5,if_pos (by decide),Y5 (sh:=[.int .i64]) (cs:=Zht x) (r:=x) _ (by decide) rfl rfl]
 by_cases hx:x=0
 ·rw [if_neg (by simp only [CQ];omega),e1,V5,if_pos (by decide),Y5 (sh:=[.int .i64]) (cs:=Zht y) (r:=y) _ (by decide) rfl rfl]
  by_cases hy:y=0
  ·rw [if_neg (by simp only [CQ];omega),e2,V5,if_pos (by decide),Y5 (sh:=[.int .i64]) (cs:=Zht z) (r:=z) _ (by decide) rfl rfl]
   by_cases hz:z=0
   ·rw [if_neg (by simp only [CQ];omega),e3,V5,if_neg (by decide)]
    simp [VN,hx,hy,hz]
   ·rw [if_pos (by simp only [CQ];omega)]
    simp [VN,hx,hy]
  ·rw [if_pos (by simp only [CQ];omega)]
   simp [VN,hx,hy]
 ·rw [if_pos (by simp only [CQ];omega)]
  simp [VN,hx]
theorem Zv2 (a b c d e f:Int):ZtI a b c d e f=some (VN (Zmz a d) (Zmz b e) (Zmz c f)):=by
 rw [ZnJ]
 simp only [ZvN,Option.bind_some,Zu7]
theorem s86 (a b c d e f:Int):g86 a b c d e f=some (ZoC a b c d e f):=by
 rw [Zpg,Zv2,Option.bind_some]
 refine congrArg some ?_
 rw [Jf]
 simp only [ZoC,CQ,Zmz,VN]
 repeat' split
 all_goals omega
theorem ZvC {l:List Id} (hl:l.length < 2^63) (a b c:Int):∀ (j i fuel:Nat),l.length=i+j→j < fuel→∃ r,Zfw fuel (Zb l) a b c (l.length:Int) i=some r∧(0≤r↔(⟨a,b,c⟩:Id)∈l.drop i):=by
 intro j
 induction j with
 | zero =>
  intro i fuel h hf
  obtain ⟨f,rfl⟩:∃ f,fuel=f+1:=⟨fuel-1,by omega⟩
  refine ⟨-1,by rw [Zfp,if_neg (by simp only [CQ];omega)],?_⟩
  rw [List.drop_of_length_le (by omega)]
  simp
 | succ j ih =>
  intro i fuel h hf
  obtain ⟨f,rfl⟩:∃ f,fuel=f+1:=⟨fuel-1,by omega⟩
  have hi:i < l.length:=by omega
  have hat:l[(i:Int).toNat]? = some l[i]:=by simp
  have a4:iop .add .i64 i 1=((i+1:Nat):Int):=by rw [Kg (by omega) (by omega)];omega
  rw [Zfp,if_pos (by simp only [CQ];omega),VG _ (by omega) hat,a4,List.drop_eq_getElem_cons hi]
  by_cases he:(⟨a,b,c⟩:Id)=l[i]
  ·refine ⟨i,?_,?_⟩
   ·rw [if_pos]
    rw [Km]
    exact he
   ·rw [List.mem_cons]
    exact ⟨fun _=>.inl he,fun _=>by omega⟩
  ·obtain ⟨r,h1,h2⟩:=ih (i+1) f (by omega) (by omega)
   refine ⟨r,?_,?_⟩
   ·rw [if_neg,h1]
    rw [Km]
    exact he
   ·rw [h2,List.mem_cons]
    simp [he]
theorem Zuy (l:List Id) (hl:l.length < 2^63) (a b c:Int):Zrz (Zb l) a b c=some (l.contains ⟨a,b,c⟩):=by
 obtain ⟨r,h1,h2⟩:=ZvC hl a b c l.length 0 Jn (by omega) (WP (by omega))
 rw [ZmN,ZmM,Z5]
 have h1':Zfw Jn (Zb l) a b c (l.length:Int) 0=some r:=h1
 rw [h1',Option.bind_some]
 refine congrArg some ?_
 rw [Jf]
 simp only [CQ,List.contains_iff_mem]
 rw [List.drop_zero] at h2
 exact h2
theorem l93 (n:ZbI) (hl:n.path.length < 2^63):∀ (j i fuel:Nat),n.path.length=i+j→j < fuel→
  Zlf fuel n.id.core n.id.op n.id.part (Zb n.path) n.cap.kind n.cap.base n.cap.bits n.cap.rights n.cap.width n.cap.level n.cap.device (Zb n.path) (n.path.length:Int) i=some ((List.range' i j).all (KI n)):=by
 intro j
 induction j with
 | zero =>
  intro i fuel h hf
  obtain ⟨f,rfl⟩:∃ f,fuel=f+1:=⟨fuel-1,by omega⟩
  rw [Zhp,if_neg (by simp only [CQ];omega)]
  rfl
 | succ j ih =>
  intro i fuel h hf
  obtain ⟨f,rfl⟩:∃ f,fuel=f+1:=⟨fuel-1,by omega⟩
  have hi:i < n.path.length:=by omega
  have hat:n.path[(i:Int).toNat]? = some n.path[i]:=by simp
  have a4:iop .add .i64 i 1=((i+1:Nat):Int):=by rw [Kg (by omega) (by omega)];omega
  have hp:KI n i=(V2 n.path[i]&&decide (n.path[i]≠n.id)&&!(n.path.take i).contains n.path[i]):=by
   unfold KI
   rw [List.getElem?_eq_getElem hi]
  have hlt:(n.path.take i).length < 2^63:=by rw [List.length_take];omega
  rw [Zhp,if_pos (by simp only [CQ];omega),VG _ (by omega) hat,a4,List.range'_succ,List.all_cons,hp]
  simp only [ZrW,Option.bind_some]
  cases h1:V2 n.path[i] with
  | false => simp
  | true =>
   rw [if_neg (by simp)]
   by_cases h2:n.path[i]=n.id
   ·rw [if_pos (by rw [Km];exact h2)]
    simp [h2]
   ·rw [if_neg (by rw [Km];exact h2),Zz (by omega),Zz (by rw [Z5];omega),Int.toNat_natCast,ZgN,Zuy _ hlt,Option.bind_some]
    cases h3:(n.path.take i).contains n.path[i] with
    | true => simp
    | false =>
     rw [if_neg (by simp)]
     have:=ih (i+1) f (by omega) (by omega)
     rw [this]
     simp [h2]
theorem s93 (n:ZbI) (hl:n.path.length < 2^63):g93 n.id.core n.id.op n.id.part (Zb n.path) n.cap.kind n.cap.base n.cap.bits n.cap.rights n.cap.width n.cap.level n.cap.device=some (YJ n):=by
 rw [ZqK]
 simp only [ZrW,Zvs,Option.bind_some,Z5]
 unfold YJ
 cases h1:V2 n.id with
 | false => simp [show (⟨n.id.core, n.id.op, n.id.part⟩ : Id) = n.id from rfl, h1]
 | true =>
  cases h2:KS n.cap with
  | false => simp [show (⟨n.id.core, n.id.op, n.id.part⟩ : Id) = n.id from rfl, h1, show (⟨n.cap.kind, n.cap.base, n.cap.bits, n.cap.rights, n.cap.width, n.cap.level, n.cap.device⟩ : Cap) = n.cap from rfl, h2]
  | true =>
   rw [if_neg (by simp),if_neg (by simp)]
   by_cases h3:n.path.length≤8
   ·rw [if_neg (by simp only [CQ];omega)]
    have:=l93 n hl n.path.length 0 Jn (by omega) (WP (by omega))
    have e:(List.range' 0 n.path.length)=List.range n.path.length:=(List.range_eq_range' ..).symm
    rw [e] at this
    refine this.trans ?_
    simp [h3]
   ·rw [if_pos (by simp only [CQ];omega)]
    simp [h3]
end Go.Proofs.YtlgmnddelljbmaaGreat
end

section
namespace Go.Proofs.YtlgmnddelljbmaaGreat
open Go Go.AM
set_option linter.unusedSimpArgs false
set_option linter.unusedVariables false
set_option maxRecDepth 100000
theorem ZR {σ γ:Type} {P:γ→Prop} {F:Nat→σ→Int→Option γ} (n:Nat) (J:Nat→σ→Prop) (hn:n < 1000)
  (step:∀ (k i:Nat) (s:σ),i≤n→J i s→(i < n→∀ s',J (i+1) s'→Ret P (F k s' ((i+1:Nat):Int)))→Ret P (F (k+1) s (i:Int))) (s:σ) (h:J 0 s):Ret P (F Jn s 0):=by
 refine WE (F:=F) (n:=n) J (by omega) (fun k i s hi hj ih=>step k i s (by omega) hj fun _=>ih) (fun k s hj=>step k n s (Nat.le_refl _) hj fun h=>absurd h (Nat.lt_irrefl _)) s h
theorem YD {i n:Nat} (h:i≤n) (hn:n < 1000):iop .add .i64 (i:Int) 1=((i+1:Nat):Int):=by
 rw [Kg (by omega) (by omega)];omega
theorem ZvS {a b c:Bool} (h:(a&&(b&&(c&&true)))=true):a=true∧b=true∧c=true:=by simpa using h
theorem ZU {γ:Type} {l:List Zq} {i:Nat} (h:i < l.length) (k:ShsT hs18→Option γ):Zt (l.map Ze) (i:Int) hs18 k=k (J2 l[i]):=Z0 h k
theorem s84 (l:List Zq) (hl:l.length < 1000) (i:Id) :
  Ret (fun r=>(r=(0,false)∧∀ e∈l,e.node.id≠i)∨∃ k,∃ h:k < l.length,r=((k:Int),true)∧l[k].node.id=i∧∀ j (hj:j < l.length),j < k→l[j].node.id≠i) (g84 (l.map Ze) i.core i.op i.part):=by
 rw [ZqW,List.length_map]
 refine ZR (F:=fun k (_:Unit) z=>ZlC k i.core i.op i.part (l.map Ze) (l.length:Int) z) l.length (fun k _=>∀ j (hj:j < l.length),j < k→l[j].node.id≠i) hl (fun k j _ hj hJ next=>?_) () (fun j _ h=>absurd h (Nat.not_lt_zero j))
 refine Zh (Zk2 ..) (Zc (fun h=>?_) fun h=>Zf (.inl ⟨rfl,fun e he=>?_⟩))
 ·simp only [CQ] at h
  have hj':j < l.length:=by omega
  refine Zh (ZU hj' _) (Zc (fun h2=>Zf (.inr ⟨j,hj',rfl,?_,hJ⟩)) fun h2=>?_)
  ·obtain ⟨h3,h4,h5⟩:=ZvS h2
   simp only [J2,d2,d4,d8,d16,CQ] at h3 h4 h5
   cases hi:l[j].node.id;cases i;simp_all
  ·rw [YD hj hl]
   refine next hj' () fun m hm hmj=>?_
   by_cases hmj':m=j
   ·subst hmj'
    intro he
    apply h2
    simp [J2,d2,d4,d8,d16,he,CQ]
   ·exact hJ m hm (by omega)
 ·simp only [CQ] at h
  obtain ⟨m,hm,rfl⟩:=List.mem_iff_getElem.1 he
  exact hJ m hm (by omega)
theorem Zvg (l:List Zq) (hl:l.length < 1000) (i:Id) (h:∀ e∈l,e.node.id≠i):g84 (l.map Ze) i.core i.op i.part=some (0,false):=by
 obtain ⟨r,e,⟨rfl,_⟩ | ⟨k,hk,_,h2,_⟩⟩:=s84 l hl i
 ·exact e
 ·exact absurd h2 (h _ (List.getElem_mem hk))
theorem ZuT (l:List Zq) (hl:l.length < 1000) (ha:l.Pairwise fun a b=>lte a b=true) (k:Nat) (hk:k < l.length):g84 (l.map Ze) l[k].node.id.core l[k].node.id.op l[k].node.id.part=some ((k:Int),true):=by
 obtain ⟨r,e,⟨_,h⟩ | ⟨j,hj,rfl,h2,h3⟩⟩:=s84 l hl l[k].node.id
 ·exact absurd rfl (h _ (List.getElem_mem hk))
 ·have hne:∀ a b (h1:a < l.length) (h2:b < l.length),a < b→l[a].node.id≠l[b].node.id:=by
   intro a b h1 h2 hab he
   have:=List.pairwise_iff_getElem.1 ha a b h1 h2 hab
   rw [Vy,he] at this
   omega
  have:j=k:=by
   rcases Nat.lt_trichotomy j k with h | h | h
   ·exact absurd h2 (hne j k hj hk h)
   ·exact h
   ·exact absurd rfl (h3 k hk h)
  subst this
  exact e
theorem Zvm (l:List Zq) (hl:l.length < 1000) (c s:Int) (hno:∀ e∈l,¬ (e.core=c∧e.slot=s)):g85 (l.map Ze) c s=some (0,false):=by
 have key:Ret (fun r=>r=((0:Int),false)) (g85 (l.map Ze) c s):=by
  rw [ZqB,List.length_map]
  refine ZR (F:=fun k (_:Unit) z=>ZhN k c s (l.map Ze) (l.length:Int) z) l.length (fun _ _=>True) hl (fun k i _ hi _ next=>?_) () trivial
  refine Zh (Zk5 ..) (Zc (fun h=>?_) fun _=>Zf rfl)
  simp only [CQ] at h
  have hi':i < l.length:=by omega
  have hnx:Ret (fun r=>r=((0:Int),false)) (ZhN k c s (l.map Ze) (l.length:Int) (iop .add .i64 (i:Int) 1)):=by rw [YD hi hl];exact next hi' () trivial
  refine Zh (ZU hi' _) (Zc (fun h2=>Zc (fun h3=>?_) fun _=>hnx) fun _=>hnx)
  simp only [J2,CQ] at h2 h3
  exact (hno _ (List.getElem_mem hi') ⟨h2,h3⟩).elim
 obtain ⟨r,e,rfl⟩:=key
 exact e
theorem Zvt (i j:Id):g86 i.core i.op i.part j.core j.op j.part=some (Zrn i j):=s86 ..
theorem ZvL (x:LL) (h:x.length < 1000):Zsi x=some x:=by
 rw [Zos]
 have hr:Jb E0 x 120:=ZH (by simp;omega) (by decide)
 cases x with
 | nil => simp [ZhX, ZA, hr]
 | cons a x => simp [ZhX, ZA, hr]
theorem s51 (l:List Zq) (h:Zab l) (hl:l.length < 1000):g51 (l.map Ze)=some (l.map Ze):=by
 have key:Ret (fun r=>r=l.map Ze) (g51 (l.map Ze)):=by
  rw [ZpC]
  refine Zd (ZvL _ (by simpa using hl)) ?_
  rw [List.length_map]
  refine ZR (F:=fun k (s:LL) i=>Zld k s (l.length:Int) i) l.length (fun _ s=>s=l.map Ze) hl (fun k i s hi hs next=>?_) (l.map Ze) rfl
  subst hs
  refine Zh (Zlp ..) (Zc (fun h=>?_) fun _=>Zf rfl)
  simp only [CQ] at h
  have hi':i < l.length:=by omega
  have r1:(0:Int)≤(i:Int):=Int.natCast_nonneg i
  have r2:(i:Int) < ((l.map Ze).length:Int):=by rw [List.length_map];omega
  have hp:=Zab.path ‹Zab l› l[i] (List.getElem_mem hi')
  refine Zp r1 (Zp r2 (Zh (ZU hi' _) (Zd (s87 l[i].node (by omega)) (Zp r1 (Zp r2 (Zp r1 (Zp r2 ?_)))))))
  rw [YD hi hl]
  refine next hi' _ (Zk4 Ze l i 2 _ fun x hx=>?_)
  rw [List.getElem?_eq_getElem hi',Option.some.injEq] at hx
  subst hx
  rfl
 obtain ⟨r,e,rfl⟩:=key
 exact e
def Zqm (l:List Zq) (x:Zq):Nat:=Zas (fun f=>lte x f) l
def Zov (l:List Zq) (x:Zq):List Zq:=l.take (Zqm l x)++x::l.drop (Zqm l x)
theorem Zgy {α:Type} (q:α→Bool) (l:List α) {i:Nat} (h:i < l.length) (h1:q l[i]=true) (h2:∀ j (hj:j < l.length),j < i→q l[j]=false):Zas q l=i:=by
 have hle:=Wf q l
 rcases Nat.lt_trichotomy (Zas q l) i with hh | hh | hh
 ·have:=Zce q l (by omega)
  rw [h2 _ (by omega) hh] at this
  cases this
 ·exact hh
 ·have:=ZcL q l i h hh
  rw [h1] at this
  cases this
theorem ZaC {α:Type} (q:α→Bool) (l:List α) (h:∀ j (hj:j < l.length),q l[j]=false):Zas q l=l.length:=by
 have hle:=Wf q l
 rcases Nat.lt_or_ge (Zas q l) l.length with hh | hh
 ·have:=Zce q l hh
  rw [h _ hh] at this
  cases this
 ·omega
theorem s38 (l:List Zq) (h:Zab l) (hl:l.length < 900) (x:Zq) (hx:x.node.path.length≤20) (h1:∀ e∈l,e.node.id≠x.node.id) (h2:∀ e∈l,¬ (e.core=x.core∧e.slot=x.slot)) :
  g38 (l.map Ze) x.core x.slot x.node.id.core x.node.id.op x.node.id.part (Zb x.node.path) x.node.cap.kind x.node.cap.base x.node.cap.bits x.node.cap.rights x.node.cap.width x.node.cap.level x.node.cap.device=some ((Zov l x).map Ze,true):=by
 have ins:∀ (j:Nat),j≤l.length→g88 (l.map Ze) (j:Int) (E0++[Ze x])=some ((l.take j++x::l.drop j).map Ze):=by
  intro j hj
  rw [ZqO]
  unfold ZtW
  rw [Zz (Int.natCast_nonneg j),Zz (by rw [List.length_map];omega),Zz (by simp),Zz (ZH (by simp;omega) (by decide))]
  simp [List.map_take,List.map_drop]
 have key:Ret (fun r=>r=((Zov l x).map Ze,true)) (g38 (l.map Ze) x.core x.slot x.node.id.core x.node.id.op x.node.id.part (Zb x.node.path) x.node.cap.kind x.node.cap.base x.node.cap.bits x.node.cap.rights x.node.cap.width x.node.cap.level x.node.cap.device):=by
  rw [ZqS]
  refine Zd (Zvg l (by omega) x.node.id h1) (Zd (Zvm l (by omega) _ _ h2) (Zc (fun h=>by cases h) fun _=>Zc (fun h=>by cases h) fun _=>?_))
  rw [List.length_map]
  refine ZR (F:=fun k (_:Unit) i=>Zlk k (l.map Ze) x.core x.slot x.node.id.core x.node.id.op x.node.id.part (Zb x.node.path) x.node.cap.kind x.node.cap.base x.node.cap.bits x.node.cap.rights x.node.cap.width x.node.cap.level x.node.cap.device (l.length:Int) (l.map Ze) (l.length:Int) i) l.length (fun i _=>∀ j (hj:j < l.length),j < i→lte x l[j]=false) (by omega) (fun k i _ hi hJ next=>?_) () (fun j _ h=>absurd h (Nat.not_lt_zero j))
  refine Zh (ZkX ..) (Zc (fun h3=>?_) fun h3=>?_)
  ·simp only [CQ] at h3
   have hi':i < l.length:=by omega
   refine Zh (ZU hi' _) (Zd (Zvt x.node.id l[i].node.id) (Zc (fun h4=>?_) fun h4=>?_))
   ·have hp:Zqm l x=i:=Zgy _ l hi' h4 hJ
    refine Zd (s51 l h (by omega)) (Zd (s87 x.node (by omega)) (Zd (ins i (by omega)) (Zf ?_)))
    rw [Zov,hp]
   ·rw [YD hi (by omega)]
    refine next hi' () fun m hm hmi=>?_
    by_cases hmi':m=i
    ·subst hmi';simpa [lte] using h4
    ·exact hJ m hm (by omega)
  ·simp only [CQ] at h3
   have hp:Zqm l x=l.length:=ZaC _ l fun j hj=>hJ j hj (by omega)
   refine Zd (s51 l h (by omega)) (Zd (s87 x.node (by omega)) (Zd (ins l.length (Nat.le_refl _)) (Zf ?_)))
   rw [Zov,hp]
 obtain ⟨r,e,rfl⟩:=key
 exact e
theorem s46 (l:List Zq) (h:Zab l) (hl:l.length < 900) (ha:l.Pairwise fun a b=>lte a b=true) (k:Nat) (hk:k < l.length) (i:Id) (hi:i=l[k].node.id):g46 (l.map Ze) i.core i.op i.part=some ((l.take k++l.drop (k+1)).map Ze,true):=by
 subst hi
 have e:iop .add .i64 (k:Int) 1=((k+1:Nat):Int):=YD (n:=900) (by omega) (by omega)
 have hd:Zt1 (l.map Ze) (k:Int) ((k+1:Nat):Int)=some ((l.take k++l.drop (k+1)).map Ze):=by
  rw [ZmO]
  unfold Zm5
  rw [Zz (Int.natCast_nonneg k),Zz (by omega),Zz (by rw [List.length_map];omega)]
  simp [List.map_take,List.map_drop]
 rw [Zp6,ZuT l (by omega) ha k hk]
 simp only [Option.bind_some,Bool.not_true,Bool.false_eq_true,if_false]
 rw [s51 l h (by omega),Option.bind_some,e,hd]
 rfl
theorem Zlc (l:List Zq) (x:Zq) (h:∀ e∈l,lte e x=true):Zov l x=l++[x]:=by
 have hp:Zqm l x=l.length:=ZaC _ l fun j hj=>by
  have:=h _ (List.getElem_mem hj)
  rw [Vy] at this
  rw [← Bool.not_eq_true,Vy]
  omega
 rw [Zov,hp];simp
end Go.Proofs.YtlgmnddelljbmaaGreat
end

section
namespace Go.Proofs.YtlgmnddelljbmaaGreat
open Go Go.AM
set_option linter.unusedSimpArgs false
set_option linter.unusedVariables false
set_option maxRecDepth 100000
def oT (es qs:LL) (r:Req) (p:Int) (w pa dm:LL):Qt13:=(0,0,16,false,es,qs,r.id.core,r.id.op,r.id.part,r.call.kind,r.call.slot,r.call.dest,r.call.core,r.call.mask,r.call.object,r.call.bits,r.call.level,r.call.offset,r.call.count,r.call.index,r.call.addr,r.region,r.width,r.src.id.core,r.src.id.op,r.src.id.part,(Zb r.src.path),r.src.cap.kind,r.src.cap.base,r.src.cap.bits,r.src.cap.rights,r.src.cap.width,r.src.cap.level,r.src.cap.device,p,w,pa,dm)
def mM (k to slot:Int) (i:Id) (err:Int) (st:Bool) (nodes:LL):List AV:=[I k,I 0,I 0,I to,I 0,I 0,I slot,I i.core,I i.op,I i.part,I err,B st]++List.replicate 20 (I 0)++[.slice false 3 E0]++List.replicate 6 (I 0)++[B false,.slice false 3 E0,.slice false 11 nodes,.slice false 1 E0,.slice false 2 E0,I 0,I 0,.slice false 1 E0,.slice false 1 E0,.slice false 15 E0,.slice false 28 E0,.slice false 4 E0,.slice false 2 E0,.slice false 13 E0,.slice false 3 E0,I 0,I 0,.slice false 1 E0,.slice false 1 E0,.slice false 15 E0,.slice false 28 E0,.slice false 4 E0,.slice false 2 E0,.slice false 13 E0,.slice false 3 E0,B false,I 0,.slice false 1 E0,.slice false 1 E0,.slice false 15 E0,.slice false 28 E0,.slice false 4 E0,.slice false 2 E0,.slice false 13 E0,.slice false 3 E0]
theorem s47 (es qs:LL) (r:Req) (p:Int) (w pa dm:LL) (err:Int) (st:Bool) (nodes:LL):g47 0 0 16 false es qs r.id.core r.id.op r.id.part r.call.kind r.call.slot r.call.dest r.call.core r.call.mask r.call.object r.call.bits r.call.level r.call.offset r.call.count r.call.index r.call.addr r.region r.width r.src.id.core r.src.id.op r.src.id.part (Zb r.src.path) r.src.cap.kind r.src.cap.base r.src.cap.bits r.src.cap.rights r.src.cap.width r.src.cap.level r.src.cap.device p w pa dm err st nodes=some ([mM 2 r.id.core 0 r.id err st nodes],oT es qs r 5 E0 pa dm):=by
 rw [Zqp,Zio]
 rfl
theorem ZvZ (f:List Zq) (hl:f.length < 900) (ha:f.Pairwise fun a b=>lte a b=true) (k:Nat) (hk:k < f.length) (qs:LL) (r:Req) (p:Int) (w pa dm:LL) (h1:r.src.id=f[k].node.id) (h2:r.id.core=f[k].core) (h3:r.call.slot=f[k].slot):Zrx 0 0 16 false (f.map Ze) qs r.id.core r.id.op r.id.part r.call.kind r.call.slot r.call.dest r.call.core r.call.mask r.call.object r.call.bits r.call.level r.call.offset r.call.count r.call.index r.call.addr r.region r.width r.src.id.core r.src.id.op r.src.id.part (Zb r.src.path) r.src.cap.kind r.src.cap.base r.src.cap.bits r.src.cap.rights r.src.cap.width r.src.cap.level r.src.cap.device p w pa dm=some (f[k].node.id.core,f[k].node.id.op,f[k].node.id.part,(Zb f[k].node.path),f[k].node.cap.kind,f[k].node.cap.base,f[k].node.cap.bits,f[k].node.cap.rights,f[k].node.cap.width,f[k].node.cap.level,f[k].node.cap.device,true,0,0,16,false,(f.map Ze),qs,r.id.core,r.id.op,r.id.part,r.call.kind,r.call.slot,r.call.dest,r.call.core,r.call.mask,r.call.object,r.call.bits,r.call.level,r.call.offset,r.call.count,r.call.index,r.call.addr,r.region,r.width,r.src.id.core,r.src.id.op,r.src.id.part,(Zb r.src.path),r.src.cap.kind,r.src.cap.base,r.src.cap.bits,r.src.cap.rights,r.src.cap.width,r.src.cap.level,r.src.cap.device,p,w,pa,dm):=by
 have key:Ret (fun x=>x=((f[k].node.id.core,f[k].node.id.op,f[k].node.id.part,(Zb f[k].node.path),f[k].node.cap.kind,f[k].node.cap.base,f[k].node.cap.bits,f[k].node.cap.rights,f[k].node.cap.width,f[k].node.cap.level,f[k].node.cap.device,true,0,0,16,false,(f.map Ze),qs,r.id.core,r.id.op,r.id.part,r.call.kind,r.call.slot,r.call.dest,r.call.core,r.call.mask,r.call.object,r.call.bits,r.call.level,r.call.offset,r.call.count,r.call.index,r.call.addr,r.region,r.width,r.src.id.core,r.src.id.op,r.src.id.part,(Zb r.src.path),r.src.cap.kind,r.src.cap.base,r.src.cap.bits,r.src.cap.rights,r.src.cap.width,r.src.cap.level,r.src.cap.device,p,w,pa,dm):Qt8)) (Zrx 0 0 16 false (f.map Ze) qs r.id.core r.id.op r.id.part r.call.kind r.call.slot r.call.dest r.call.core r.call.mask r.call.object r.call.bits r.call.level r.call.offset r.call.count r.call.index r.call.addr r.region r.width r.src.id.core r.src.id.op r.src.id.part (Zb r.src.path) r.src.cap.kind r.src.cap.base r.src.cap.bits r.src.cap.rights r.src.cap.width r.src.cap.level r.src.cap.device p w pa dm):=by
  rw [ZmP]
  have e:=ZuT f (by omega) ha k hk
  rw [← h1] at e
  refine Zd e (Zc (fun h=>by cases h) fun _=>Zh (ZU hk _) (Zc (fun h=>?_) fun _=>Zh (ZU hk _) (Zc (fun h=>?_) fun _=>Zh (ZU hk _) (Zf rfl))))
  ·simp only [J2,CQ] at h;omega
  ·simp only [J2,CQ] at h;omega
 obtain ⟨r,e,rfl⟩:=key
 exact e
end Go.Proofs.YtlgmnddelljbmaaGreat
end

section
namespace Go.Proofs.YtlgmnddelljbmaaGreat
open Go Go.AM
set_option linter.unusedSimpArgs false
set_option linter.unusedVariables false
set_option maxRecDepth 100000
theorem Zvl (es:LL) (r:Req) {R:Qt12} (h:g95 0 0 16 false es E0 r.id.core r.id.op r.id.part r.call.kind r.call.slot r.call.dest r.call.core r.call.mask r.call.object r.call.bits r.call.level r.call.offset r.call.count r.call.index r.call.addr r.region r.width r.src.id.core r.src.id.op r.src.id.part (Zb r.src.path) r.src.cap.kind r.src.cap.base r.src.cap.bits r.src.cap.rights r.src.cap.width r.src.cap.level r.src.cap.device 0 E0 E0 E0=some R):g44 0 0 16 false es ([r].map Zrh) 0 0 0 0 0 0 0 0 0 0 0 0 0 0 0 0 0 0 0 0 E0 0 0 0 0 0 0 false 0 E0 E0 E0=some R:=by
 have key:Ret (fun x=>x=R) (g44 0 0 16 false es ([r].map Zrh) 0 0 0 0 0 0 0 0 0 0 0 0 0 0 0 0 0 0 0 0 E0 0 0 0 0 0 0 false 0 E0 E0 E0):=by
  rw [Zq0]
  refine Zc (fun h=>?_) fun _=>Zc (fun h=>?_) fun _=>?_
  ·exfalso;simp only [CQ] at h;omega
  ·exfalso;simp only [CQ,List.length_map,List.length_cons,List.length_nil] at h;omega
  ·refine Zp (Int.le_refl _) (Zp (by simp only [List.length_map,List.length_cons];omega) (Zh (Ziz (l:=[r]) (i:=0) (by simp) _) ?_))
   have hdel:g94 ([r].map Zrh) 0 1=some E0:=by
    rw [Zqt]
    unfold Zm5
    rw [Zz (Int.le_refl _),Zz (by decide),Zz (by simp)]
    rfl
   exact Zd hdel (Zd h (Zf rfl))
 obtain ⟨r,e,rfl⟩:=key
 exact e
structure Zuf (r:Req):Prop where
 id:V2 r.id=true
 part:r.id.part=0
 k2:2≤r.call.kind
 k6:r.call.kind≤6
 reg:r.region=0
 wid:r.width=32
 src:YJ r.src=true
theorem s42 (r:Req) (h:Zuf r):g42 r.id.core r.id.op r.id.part r.call.kind r.call.slot r.call.dest r.call.core r.call.mask r.call.object r.call.bits r.call.level r.call.offset r.call.count r.call.index r.call.addr r.region r.width r.src.id.core r.src.id.op r.src.id.part (Zb r.src.path) r.src.cap.kind r.src.cap.base r.src.cap.bits r.src.cap.rights r.src.cap.width r.src.cap.level r.src.cap.device=some true:=by
 have hp:=(YU h.src).2.2.1
 have e90:g90 r.id.core r.id.op r.id.part=some true:=by
  rw [Zmv,ZrW,h.id,h.part]
  rfl
 have e91:g91 r.region=some true:=by rw [h.reg];kernel_rfl
 have hw:=h.wid
 have k2:=h.k2
 have k6:=h.k6
 have key:Ret (fun x=>x=true) (g42 r.id.core r.id.op r.id.part r.call.kind r.call.slot r.call.dest r.call.core r.call.mask r.call.object r.call.bits r.call.level r.call.offset r.call.count r.call.index r.call.addr r.region r.width r.src.id.core r.src.id.op r.src.id.part (Zb r.src.path) r.src.cap.kind r.src.cap.base r.src.cap.bits r.src.cap.rights r.src.cap.width r.src.cap.level r.src.cap.device):=by
  rw [Zqb]
  refine Zd e90 (Zc (fun h=>by cases h) fun _=>Zc (fun h=>?_) fun _=>Zc (fun h=>?_) fun _=>Zd e91 (Zc (fun h=>by cases h) fun _=>Zc (fun h=>?_) fun _=>Zc (fun h=>?_) fun _=>Zd (s93 r.src (by omega)) (Zf h.src)))
  ·simp only [CQ] at h;omega
  ·simp only [CQ] at h;omega
  ·exfalso;simp only [CQ] at h;omega
  ·exfalso;simp only [CQ] at h;omega
 obtain ⟨r,e,rfl⟩:=key
 exact e
theorem s43 (r:Req) (h:r.src.path.length≤64):g43 r.id.core r.id.op r.id.part r.call.kind r.call.slot r.call.dest r.call.core r.call.mask r.call.object r.call.bits r.call.level r.call.offset r.call.count r.call.index r.call.addr r.region r.width r.src.id.core r.src.id.op r.src.id.part (Zb r.src.path) r.src.cap.kind r.src.cap.base r.src.cap.bits r.src.cap.rights r.src.cap.width r.src.cap.level r.src.cap.device=some (ZuD r):=by
 rw [Zpb,s87 r.src h]
 rfl
theorem s40 (es:LL) (r:Req):ZgH 0 0 16 false es E0 0 0 0 0 0 0 0 0 0 0 0 0 0 0 0 0 0 0 0 0 E0 0 0 0 0 0 0 false 0 E0 E0 E0 r.id.core r.id.op r.id.part r.call.kind r.call.slot r.call.dest r.call.core r.call.mask r.call.object r.call.bits r.call.level r.call.offset r.call.count r.call.index r.call.addr r.region r.width r.src.id.core r.src.id.op r.src.id.part (Zb r.src.path) r.src.cap.kind r.src.cap.base r.src.cap.bits r.src.cap.rights r.src.cap.width r.src.cap.level r.src.cap.device=some (false,0,0,16,false,es,E0,0,0,0,0,0,0,0,0,0,0,0,0,0,0,0,0,0,0,0,0,E0,0,0,0,0,0,0,false,0,E0,E0,E0,r.id.core,r.id.op,r.id.part,r.call.kind,r.call.slot,r.call.dest,r.call.core,r.call.mask,r.call.object,r.call.bits,r.call.level,r.call.offset,r.call.count,r.call.index,r.call.addr,r.region,r.width,r.src.id.core,r.src.id.op,r.src.id.part,(Zb r.src.path),r.src.cap.kind,r.src.cap.base,r.src.cap.bits,r.src.cap.rights,r.src.cap.width,r.src.cap.level,r.src.cap.device):=by
 have key:Ret (fun x=>x=((false,0,0,16,false,es,E0,0,0,0,0,0,0,0,0,0,0,0,0,0,0,0,0,0,0,0,0,E0,0,0,0,0,0,0,false,0,E0,E0,E0,r.id.core,r.id.op,r.id.part,r.call.kind,r.call.slot,r.call.dest,r.call.core,r.call.mask,r.call.object,r.call.bits,r.call.level,r.call.offset,r.call.count,r.call.index,r.call.addr,r.region,r.width,r.src.id.core,r.src.id.op,r.src.id.part,(Zb r.src.path),r.src.cap.kind,r.src.cap.base,r.src.cap.bits,r.src.cap.rights,r.src.cap.width,r.src.cap.level,r.src.cap.device):Qt5)) (ZgH 0 0 16 false es E0 0 0 0 0 0 0 0 0 0 0 0 0 0 0 0 0 0 0 0 0 E0 0 0 0 0 0 0 false 0 E0 E0 E0 r.id.core r.id.op r.id.part r.call.kind r.call.slot r.call.dest r.call.core r.call.mask r.call.object r.call.bits r.call.level r.call.offset r.call.count r.call.index r.call.addr r.region r.width r.src.id.core r.src.id.op r.src.id.part (Zb r.src.path) r.src.cap.kind r.src.cap.base r.src.cap.bits r.src.cap.rights r.src.cap.width r.src.cap.level r.src.cap.device):=by
  rw [ZjP]
  refine ZJ (Q:=fun x=>x=(((-1),0,0,16,false,es,E0,0,0,0,0,0,0,0,0,0,0,0,0,0,0,0,0,0,0,0,0,E0,0,0,0,0,0,0,false,0,E0,E0,E0,r.id.core,r.id.op,r.id.part,r.call.kind,r.call.slot,r.call.dest,r.call.core,r.call.mask,r.call.object,r.call.bits,r.call.level,r.call.offset,r.call.count,r.call.index,r.call.addr,r.region,r.width,r.src.id.core,r.src.id.op,r.src.id.part,(Zb r.src.path),r.src.cap.kind,r.src.cap.base,r.src.cap.bits,r.src.cap.rights,r.src.cap.width,r.src.cap.level,r.src.cap.device):Qt6)) ?_ fun x hr=>by subst hr;exact Zf rfl
  rw [Zjk]
  refine ZR (F:=fun k (_:Unit) i=>Zav k (List.length E0:Int) i 0 0 16 false es E0 0 0 0 0 0 0 0 0 0 0 0 0 0 0 0 0 0 0 0 0 E0 0 0 0 0 0 0 false 0 E0 E0 E0 r.id.core r.id.op r.id.part r.call.kind r.call.slot r.call.dest r.call.core r.call.mask r.call.object r.call.bits r.call.level r.call.offset r.call.count r.call.index r.call.addr r.region r.width r.src.id.core r.src.id.op r.src.id.part (Zb r.src.path) r.src.cap.kind r.src.cap.base r.src.cap.bits r.src.cap.rights r.src.cap.width r.src.cap.level r.src.cap.device) 0 (fun _ _=>True) (by omega) (fun k i _ hi _ next=>?_) () trivial
  refine Zh (Zf2 ..) (Zc (fun h=>?_) fun _=>Zf rfl)
  exfalso;simp only [CQ,List.length_nil] at h;omega
 obtain ⟨r,e,rfl⟩:=key
 exact e
theorem s14 (es:LL) (r:Req) (hr:Zuf r) {R:Qt12} (h:g95 0 0 16 false es E0 r.id.core r.id.op r.id.part r.call.kind r.call.slot r.call.dest r.call.core r.call.mask r.call.object r.call.bits r.call.level r.call.offset r.call.count r.call.index r.call.addr r.region r.width r.src.id.core r.src.id.op r.src.id.part (Zb r.src.path) r.src.cap.kind r.src.cap.base r.src.cap.bits r.src.cap.rights r.src.cap.width r.src.cap.level r.src.cap.device 0 E0 E0 E0=some R):g14 0 0 16 false es E0 0 0 0 0 0 0 0 0 0 0 0 0 0 0 0 0 0 0 0 0 E0 0 0 0 0 0 0 false 0 E0 E0 E0 r.id.core r.id.op r.id.part r.call.kind r.call.slot r.call.dest r.call.core r.call.mask r.call.object r.call.bits r.call.level r.call.offset r.call.count r.call.index r.call.addr r.region r.width r.src.id.core r.src.id.op r.src.id.part (Zb r.src.path) r.src.cap.kind r.src.cap.base r.src.cap.bits r.src.cap.rights r.src.cap.width r.src.cap.level r.src.cap.device=some R:=by
 have hp:=(YU hr.src).2.2.1
 have hreg:=hr.reg
 have key:Ret (fun x=>x=R) (g14 0 0 16 false es E0 0 0 0 0 0 0 0 0 0 0 0 0 0 0 0 0 0 0 0 0 E0 0 0 0 0 0 0 false 0 E0 E0 E0 r.id.core r.id.op r.id.part r.call.kind r.call.slot r.call.dest r.call.core r.call.mask r.call.object r.call.bits r.call.level r.call.offset r.call.count r.call.index r.call.addr r.region r.width r.src.id.core r.src.id.op r.src.id.part (Zb r.src.path) r.src.cap.kind r.src.cap.base r.src.cap.bits r.src.cap.rights r.src.cap.width r.src.cap.level r.src.cap.device):=by
  rw [Zp8]
  refine Zd (s40 es r) (Zc (fun h=>by cases h) fun _=>Zc (fun h=>?_) fun _=>Zd (s42 r hr) (Zc (fun h=>by cases h) fun _=>Zc (fun h=>?_) fun _=>?_))
  ·exfalso;simp only [CQ] at h;omega
  ·exfalso;simp only [CQ] at h;omega
  ·exact Zd (s43 r (by omega)) (Zp (ZH (by simp) (by decide)) (Zd (Zvl es r h) (Zf rfl)))
 obtain ⟨r,e,rfl⟩:=key
 exact e
def iT (es:LL):Qt13:=(0,0,16,false,es,E0,0,0,0,0,0,0,0,0,0,0,0,0,0,0,0,0,0,0,0,0,E0,0,0,0,0,0,0,false,0,E0,E0,E0)
theorem s9 (f:List Zq) (n:Nat) (hf:FOk f n) (hn:n≤100):g9 0 0 16 false (f.map Ze)=some (iT (f.map Ze)):=by
 have hl:=hf.len
 have hF:=hf.few hn
 have key:Ret (fun x=>x=iT (f.map Ze)) (g9 0 0 16 false (f.map Ze)):=by
  rw [Zse,List.length_map]
  refine ZR (F:=fun k (s:LL) i=>Zpo k (f.map Ze) (f.length:Int) i 0 0 16 false s E0 0 0 0 0 0 0 0 0 0 0 0 0 0 0 0 0 0 0 0 0 E0 0 0 0 0 0 0 false 0 E0 E0 E0) f.length (fun i s=>s=(f.take i).map Ze) (by omega) (fun k i s hi hJ next=>?_) E0 (by simp)
  subst hJ
  refine Zh (Zn4 ..) (Zc (fun h=>?_) fun h=>?_)
  ·simp only [CQ] at h
   have hi':i < f.length:=by omega
   have hne:∀ e∈f.take i,lte e f[i]=true∧¬ (e.core=f[i].core∧e.slot=f[i].slot):=by
    intro e he
    obtain ⟨j,hj,rfl⟩:=List.mem_iff_getElem.1 he
    rw [List.length_take] at hj
    rw [List.getElem_take]
    exact ⟨List.pairwise_iff_getElem.1 hf.asc j i (by omega) hi' (by omega),List.pairwise_iff_getElem.1 hf.pl j i (by omega) hi' (by omega)⟩
   have hp:=hF.path f[i] (List.getElem_mem hi')
   have e:=s38 (f.take i) ⟨by rw [List.length_take];omega,fun x hx=>hF.path x (List.mem_of_mem_take hx)⟩ (by rw [List.length_take];omega) f[i] (by omega) (fun e he hc=>by have:=(hne e he).1;rw [Vy,hc] at this;omega) (fun e he=>(hne e he).2)
   rw [Zlc _ _ fun e he=>(hne e he).1] at e
   refine Zh (ZU hi' _) (Zd e (Zc (fun _=>?_) fun h=>absurd rfl h))
   rw [YD hi (by omega)]
   exact next hi' _ (by rw [List.take_succ_eq_append_getElem hi'])
  ·simp only [CQ] at h
   rw [List.take_of_length_le (by omega)]
   exact Zf rfl
 obtain ⟨r,e,rfl⟩:=key
 exact e
end Go.Proofs.YtlgmnddelljbmaaGreat
end

section
namespace Go.Proofs.YtlgmnddelljbmaaGreat
open Go Go.AM
set_option linter.unusedSimpArgs false
set_option linter.unusedVariables false
set_option maxRecDepth 100000
def ZaE (l:List Int) (x:Int):Nat:=Zas (fun y=>!decide (y < x)) l
def Zd5 (l:List Int) (x:Int):List Int:=if l[ZaE l x]? = some x then l else l.take (ZaE l x)++x::l.drop (ZaE l x)
theorem Zls (l:List Int) (x z:Int):z∈Zd5 l x↔z∈l∨z=x:=by
 unfold Zd5
 split
 ·rename_i h
  have:=List.mem_of_getElem? h
  constructor
  ·exact .inl
  ·rintro (h | rfl)
   ·exact h
   ·exact this
 ·rw [List.mem_append,List.mem_cons]
  constructor
  ·rintro (h | h | h)
   ·exact .inl (List.mem_of_mem_take h)
   ·exact .inr h
   ·exact .inl (List.mem_of_mem_drop h)
  ·rintro (h | h)
   ·rw [← List.take_append_drop (ZaE l x) l,List.mem_append] at h
    rcases h with h | h
    ·exact .inl h
    ·exact .inr (.inr h)
   ·exact .inr (.inl h)
theorem Zk6 (l:List Int) (x:Int) (h:l.Pairwise (· < ·)):(Zd5 l x).Pairwise (· < ·):=by
 unfold Zd5
 split
 ·exact h
 ·rename_i hne
  have hle:ZaE l x≤l.length:=Wf _ _
  have hlt:∀ j (hj:j < l.length),j < ZaE l x→l[j] < x:=fun j hj hjp=>by
   have:=ZcL _ l j hj hjp
   simpa using this
  have hge:∀ j (hj:j < l.length),ZaE l x≤j→x < l[j]:=by
   intro j hj hpj
   have hp:ZaE l x < l.length:=by omega
   have h1:=Zce (fun y=>!decide (y < x)) l hp
   have h2:x≤l[ZaE l x]:=by
    have h1':(!decide (l[ZaE l x] < x))=true:=h1
    simp at h1'
    exact h1'
   have h3:l[ZaE l x]≠x:=fun he=>hne (by rw [List.getElem?_eq_getElem hp,he])
   rcases Nat.eq_or_lt_of_le hpj with he | hlt'
   ·subst he;omega
   ·have:=List.pairwise_iff_getElem.1 h (ZaE l x) j hp hj hlt'
    omega
  refine List.pairwise_append.2 ⟨h.sublist (List.take_sublist _ _),List.pairwise_cons.2 ⟨fun y hy=>?_,h.sublist (List.drop_sublist _ _)⟩,fun a ha b hb=>?_⟩
  ·obtain ⟨j,hj,rfl⟩:=List.mem_iff_getElem.1 hy
   rw [List.getElem_drop]
   exact hge _ _ (by omega)
  ·obtain ⟨i,hi,rfl⟩:=List.mem_iff_getElem.1 ha
   rw [List.length_take] at hi
   rw [List.getElem_take]
   have hai:=hlt i (by omega) (by omega)
   rcases List.mem_cons.1 hb with rfl | hb
   ·exact hai
   ·obtain ⟨j,hj,rfl⟩:=List.mem_iff_getElem.1 hb
    rw [List.getElem_drop]
    have:=hge (ZaE l x+j) (by rw [List.length_drop] at hj;omega) (by omega)
    omega
theorem Zks {l m:List Int} (hl:l.Nodup) (hm:m.Pairwise (· < ·)) (h:∀ z,z∈l↔z∈m):l.mergeSort (fun a b=>decide (a≤b))=m:=by
 have tr:∀ a b c:Int,decide (a≤b)=true→decide (b≤c)=true→decide (a≤c)=true:=fun a b c h1 h2=>by simp only [decide_eq_true_eq] at *; omega
 have to:∀ a b:Int,(decide (a≤b)||decide (b≤a))=true:=fun a b=>by simp only [Bool.or_eq_true,decide_eq_true_eq];omega
 have hmn:m.Nodup:=hm.imp fun h=>by omega
 refine List.Perm.eq_of_pairwise (le:=fun a b=>decide (a≤b)=true) (fun a b _ _ h1 h2=>?_) (List.pairwise_mergeSort tr to l) (hm.imp fun h=>by simp only [decide_eq_true_eq];omega) ((List.mergeSort_perm l _).trans ((List.perm_ext_iff_of_nodup hl hmn).2 h))
 simp only [decide_eq_true_eq] at h1 h2
 omega
def bl (f:List Zq) (i:Id):List Zq:=f.filter fun e=>e.node.path.contains i
def Yl (b:List Zq) (c:Int):List Int:=b.foldl (fun p e=>Zd5 p e.core) [c]
theorem Zea (b:List Zq):∀ (p:List Int),p.Pairwise (· < ·)→(b.foldl (fun p e=>Zd5 p e.core) p).Pairwise (· < ·):=by
 induction b with
 | nil => exact fun p h => h
 | cons e b ih => exact fun p h => ih _ (Zk6 p e.core h)
theorem Zfb (b:List Zq):∀ (p:List Int) (z:Int),z∈b.foldl (fun p e=>Zd5 p e.core) p↔z∈p∨∃ e∈b,e.core=z:=by
 induction b with
 | nil => intro p z; simp
 | cons e b ih =>
  intro p z
  rw [List.foldl_cons,ih,Zls]
  constructor
  ·rintro ((h | h) | ⟨e',h1,h2⟩)
   ·exact .inl h
   ·exact .inr ⟨e,List.mem_cons_self ..,h.symm⟩
   ·exact .inr ⟨e',List.mem_cons_of_mem _ h1,h2⟩
  ·rintro (h | ⟨e',h1,h2⟩)
   ·exact .inl (.inl h)
   ·rcases List.mem_cons.1 h1 with rfl | h1
    ·exact .inl (.inr h2.symm)
    ·exact .inr ⟨e',h1,h2⟩
def Za3 (M:LL) (n:Nat) (S:Int→Prop):Prop:=
 ∃ kvs:LL,M = [[.slice false 2 kvs]]∧(∀ row∈kvs,∃ (z:Int) (ys:LL),row = [I z,.slice false 3 ys]∧0≤z∧z < 32∧ys.length≤n)∧(kvs.filterMap ZI).Nodup∧kvs.length≤n+1∧∀ z,z∈kvs.filterMap ZI↔S z
theorem Zj0 (c:Int) (h:0≤c∧c < 32):Za3 (Kj (E0++[[AV.slice false 2 E0]]) c 3 E0) 0 (· = c):=by
 refine ⟨[[I c,.slice false 3 []]],rfl,fun row hr=>⟨c,[],List.mem_singleton.1 hr,h.1,h.2,Nat.le_refl _⟩,?_,Nat.le_refl _,fun z=>?_⟩
 ·show [c].Nodup
  simp
 ·show z∈[c]↔_
  simp
theorem Za3.any {M:LL} {n:Nat} {S:Int→Prop} (h:Za3 M n S):ZaD .any M 0=true:=by
 obtain ⟨kvs,rfl,_⟩:=h
 rfl
theorem Za3.full {M:LL} {n:Nat} {S:Int→Prop} (h:Za3 M n S):ZaD .full M 0=true:=by
 obtain ⟨kvs,rfl,_⟩:=h
 rfl
theorem Za3.at {M:LL} {n:Nat} {S:Int→Prop} (h:Za3 M n S) (c:Int):ZaD .at (YB M c) c=true:=by
 obtain ⟨kvs,rfl,_⟩:=h
 simp [ZaD,YB,Kl,Zme]
theorem Za3.keys {M:LL} {n:Nat} {S:Int→Prop} (h:Za3 M n S) (hn:n≤1000):ZaD .keys M 0=true:=by
 obtain ⟨kvs,rfl,h1,_,h3,_⟩:=h
 have hk:kvs.all VO=true:=List.all_eq_true.2 fun row hr=>by
  obtain ⟨z,ys,rfl,h4,h5,_⟩:=h1 row hr
  have:VO [I z,.slice false 3 ys]=(decide (-9223372036854775808≤z)&&decide (z≤9223372036854775807)):=rfl
  rw [this]
  simp only [Bool.and_eq_true,decide_eq_true_eq]
  omega
 have hl:kvs.length≤1048576:=by omega
 simp [ZaD,hk,hl]
theorem Za3.get {M:LL} {n:Nat} {S:Int→Prop} (h:Za3 M n S) (c:Int):(JL M c).length≤n:=by
 obtain ⟨kvs,rfl,h1,_⟩:=h
 unfold JL
 split
 ·rename_i row hr
  obtain ⟨z,ys,rfl,_,_,h2⟩:=h1 row (List.mem_of_find?_eq_some hr)
  exact h2
 ·exact Nat.zero_le _
theorem ZgA (kvs:LL) (c:Int) (v:AV):(YI kvs c v).filterMap ZI=if (kvs.any fun r=>ZI r == some c)=true then kvs.filterMap ZI else kvs.filterMap ZI++[c]:=by
 unfold YI
 split
 ·rw [List.filterMap_map]
  congr 1
  funext r
  show ZI (if ZI r == some c then [I c,v] else r)=ZI r
  split
  ·rename_i h
   have h':ZI r=some c:=by simpa using h
   rw [h']
   rfl
  ·rfl
 ·rw [List.filterMap_append]
  rfl
theorem Za3.put {M:LL} {n:Nat} {S:Int→Prop} (h:Za3 M n S) (c:Int) (hc:0≤c∧c < 32) (ys:LL) (hy:ys.length≤n+1):Za3 (Kj (YB M c) c 3 ys) (n+1) (fun z=>S z∨z=c):=by
 obtain ⟨kvs,rfl,h1,h2,h3,h4⟩:=h
 have hm:Kj (YB [[AV.slice false 2 kvs]] c) c 3 ys = [[.slice false 2 (YI kvs c (.slice false 3 ys))]]:=rfl
 have hmem:∀ row∈YI kvs c (.slice false 3 ys),row∈kvs∨row = [I c,.slice false 3 ys]:=by
  intro row hr
  unfold YI at hr
  split at hr
  ·obtain ⟨r0,hr0,rfl⟩:=List.mem_map.1 hr
   by_cases hk:(ZI r0 == some c)=true
   ·rw [if_pos hk];exact .inr rfl
   ·rw [if_neg hk];exact .inl hr0
  ·rcases List.mem_append.1 hr with hr | hr
   ·exact .inl hr
   ·exact .inr (List.mem_singleton.1 hr)
 have hlen:(YI kvs c (.slice false 3 ys)).length≤kvs.length+1:=by
  unfold YI
  split
  ·rw [List.length_map];omega
  ·rw [List.length_append];simp
 have hin:(kvs.any fun r=>ZI r == some c)=true↔c∈kvs.filterMap ZI:=by
  rw [List.any_eq_true,List.mem_filterMap]
  constructor
  ·rintro ⟨r,hr,hk⟩;exact ⟨r,hr,by simpa using hk⟩
  ·rintro ⟨r,hr,hk⟩;exact ⟨r,hr,by simp [hk]⟩
 refine ⟨_,hm,fun row hr=>?_,?_,by omega,fun z=>?_⟩
 ·rcases hmem row hr with hr | rfl
  ·obtain ⟨z,zs,e1,e2,e3,e4⟩:=h1 row hr
   exact ⟨z,zs,e1,e2,e3,by omega⟩
  ·exact ⟨c,ys,rfl,hc.1,hc.2,hy⟩
 ·rw [ZgA]
  split
  ·exact h2
  ·rename_i hno
   rw [hin] at hno
   exact List.nodup_append.2 ⟨h2,by simp,fun a ha b hb he=>hno (by rw [List.mem_singleton.1 hb] at he;exact he ▸ ha)⟩
 ·rw [ZgA]
  split
  ·rename_i hyes
   rw [hin,h4] at hyes
   rw [h4]
   exact ⟨.inl,fun h=>h.elim id fun h=>h ▸ hyes⟩
  ·rw [List.mem_append,List.mem_singleton,h4]
theorem Za3.parts {M:LL} {n:Nat} {P:List Int} (h:Za3 M n (·∈P)) (hP:P.Pairwise (· < ·)):KV M=Za P:=by
 obtain ⟨kvs,rfl,_,h2,_,h4⟩:=h
 have:=Zks h2 hP h4
 show ((kvs.filterMap ZI).mergeSort fun a b=>decide (a≤b)).map Zht=P.map Zht
 rw [this]
theorem Wg {α:Type} (q:α→Bool) (l:List α) {i:Nat} (h:i < l.length):(l.take (i+1)).filter q=(l.take i).filter q++if q l[i]=true then [l[i]] else []:=by
 rw [List.take_add_one,List.getElem?_eq_getElem h,Option.toList_some,List.filter_append]
 congr 1
 cases hq:q l[i]<;>simp [List.filter,hq]
theorem ZuO (e:Zq) (hp:e.node.path.length≤20) (i:Id):Zrs e.node.id.core e.node.id.op e.node.id.part (Zb e.node.path) e.node.cap.kind e.node.cap.base e.node.cap.bits e.node.cap.rights e.node.cap.width e.node.cap.level e.node.cap.device i.core i.op i.part=some (e.node.path.contains i):=by rw [ZnQ,Zuy _ (by omega)];rfl
theorem Zs4 (l:List Id) (hl:l.length < 1000) (i:Id):g16 (Zb l) i.core i.op i.part=some (l.contains i):=by
 have key:Ret (fun x=>x=l.contains i) (g16 (Zb l) i.core i.op i.part):=by
  rw [Zmk]
  refine ZR (F:=fun k (_:Unit) z=>Zkf k (Zb l) i.core i.op i.part z) l.length (fun k _=>∀ j (hj:j < l.length),j < k→l[j]≠i) hl (fun k j _ hj hJ next=>?_) () (fun j _ h=>absurd h (Nat.not_lt_zero j))
  refine Zh (Zc8 ..) (Zc (fun h=>?_) fun h=>Zf ?_)
  ·simp only [CQ,Z5] at h
   have hj':j < l.length:=by omega
   refine Zh (Zhw hj' _) (Zc (fun h2=>Zf ?_) fun h2=>?_)
   ·rw [Km] at h2
    have:l[j]=i:=h2
    exact (List.contains_iff_mem.2 (this ▸ List.getElem_mem hj')).symm
   ·rw [YD hj hl]
    refine next hj' () fun m hm hmj=>?_
    by_cases hmj':m=j
    ·subst hmj'
     intro he
     apply h2
     rw [Km]
     exact he
    ·exact hJ m hm (by omega)
  ·simp only [CQ,Z5] at h
   symm
   rw [List.contains_eq_mem,decide_eq_false_iff_not]
   intro hm
   obtain ⟨m,hm',hme⟩:=List.mem_iff_getElem.1 hm
   exact hJ m hm' (by omega) hme
 obtain ⟨r,e,rfl⟩:=key
 exact e
def Z8 (b:List Zq):List Id:=b.map fun e=>e.node.id
theorem ZuC (f:List Zq) (hF:Zab f) (hl:f.length < 900) (i:Id):ZrY (f.map Ze) i.core i.op i.part=some (Zb (Z8 (bl f i))):=by
 have key:Ret (fun x=>x=Zb (Z8 (bl f i))) (ZrY (f.map Ze) i.core i.op i.part):=by
  rw [ZnW,List.length_map]
  refine ZR (F:=fun k (s:LL) z=>Zei k i.core i.op i.part s (f.map Ze) (f.length:Int) z) f.length (fun j s=>s=Zb (Z8 (bl (f.take j) i))) (by omega) (fun k j s hj hJ next=>?_) E0 rfl
  refine Zh (ZiQ ..) (Zc (fun h=>?_) fun h=>Zf ?_)
  ·simp only [CQ] at h
   have hj':j < f.length:=by omega
   have hp:=hF.path f[j] (List.getElem_mem hj')
   subst hJ
   have hlen:(Zb (Z8 (bl (f.take j) i))).length≤900:=by
    rw [Z5,Z8,List.length_map]
    exact Nat.le_trans (List.length_filter_le _ _) (by rw [List.length_take];omega)
   have hs:=Wg (fun e:Zq=>e.node.path.contains i) f hj'
   refine Zh (ZU hj' _) (Zd (ZuO f[j] hp i) (Zc (fun h2=>Zp (ZH (by simp;omega) (by decide)) ?_) fun h2=>?_))
   ·rw [YD hj (by omega)]
    refine next hj' _ ?_
    show _=Zb (Z8 ((f.take (j+1)).filter _))
    rw [hs,if_pos h2]
    simp [Z8,bl,Zb,idc,J2]
   ·rw [YD hj (by omega)]
    refine next hj' _ ?_
    show _=Zb (Z8 ((f.take (j+1)).filter _))
    rw [hs,if_neg h2,List.append_nil]
    rfl
  ·simp only [CQ] at h
   rw [hJ,List.take_of_length_le (by omega)]
 obtain ⟨r,e,rfl⟩:=key
 exact e
theorem s15 (f:List Zq) (hF:Zab f) (hl:f.length < 900) (i:Id):g15 (f.map Ze) i.core i.op i.part=some (Zb (Z8 (bl f i))):=by
 have key:Ret (fun x=>x=Zb (Z8 (bl f i))) (g15 (f.map Ze) i.core i.op i.part):=by
  rw [ZoX]
  refine ZR (F:=fun k (s:LL) z=>Zkj k (f.map Ze) i.core i.op i.part s z) f.length (fun j s=>s=Zb (Z8 (bl (f.take j) i))) (by omega) (fun k j s hj hJ next=>?_) E0 rfl
  refine Zh (ZlW ..) (Zc (fun h=>?_) fun h=>Zf ?_)
  ·simp only [CQ,List.length_map] at h
   have hj':j < f.length:=by omega
   have hp:=hF.path f[j] (List.getElem_mem hj')
   subst hJ
   have hlen:(Zb (Z8 (bl (f.take j) i))).length≤900:=by
    rw [Z5,Z8,List.length_map]
    exact Nat.le_trans (List.length_filter_le _ _) (by rw [List.length_take];omega)
   have hs:=Wg (fun e:Zq=>e.node.path.contains i) f hj'
   refine Zh (ZU hj' _) (Zd (Zs4 f[j].node.path (by omega) i) (Zc (fun h2=>Zh (ZU hj' _) (Zp (ZH (by simp;omega) (by decide)) ?_)) fun h2=>?_))
   ·rw [YD hj (by omega)]
    refine next hj' _ ?_
    show _=Zb (Z8 ((f.take (j+1)).filter _))
    rw [hs,if_pos h2]
    simp [Z8,bl,Zb,idc,J2]
   ·rw [YD hj (by omega)]
    refine next hj' _ ?_
    show _=Zb (Z8 ((f.take (j+1)).filter _))
    rw [hs,if_neg h2,List.append_nil]
    rfl
  ·simp only [CQ,List.length_map] at h
   rw [hJ,List.take_of_length_le (by omega)]
 obtain ⟨r,e,rfl⟩:=key
 exact e
theorem s19 (f:List Zq) (hF:Zab f) (hl:f.length < 900) (i:Id):g19 (f.map Ze) i.core i.op i.part=some ((f.filter fun e=>!e.node.path.contains i).map Ze):=by
 have hF2:Zab (f.filter fun e=>!e.node.path.contains i):=⟨by have:=hF.len;exact Nat.le_trans (List.length_filter_le _ _) this,fun e he=>hF.path e ((List.mem_filter.1 he).1)⟩
 have key:Ret (fun x=>x=(f.filter fun e=>!e.node.path.contains i).map Ze) (g19 (f.map Ze) i.core i.op i.part):=by
  rw [Zqi]
  refine ZR (F:=fun k (s:LL) z=>ZiD k (f.map Ze) i.core i.op i.part s z) f.length (fun j s=>s=((f.take j).filter fun e=>!e.node.path.contains i).map Ze) (by omega) (fun k j s hj hJ next=>?_) E0 rfl
  refine Zh (ZlE ..) (Zc (fun h=>?_) fun h=>?_)
  ·simp only [CQ,List.length_map] at h
   have hj':j < f.length:=by omega
   have hp:=hF.path f[j] (List.getElem_mem hj')
   subst hJ
   have hlen:(((f.take j).filter fun e=>!e.node.path.contains i).map Ze).length≤900:=by
    rw [List.length_map]
    exact Nat.le_trans (List.length_filter_le _ _) (by rw [List.length_take];omega)
   have hr:∀ x:List AV,Jb (((f.take j).filter fun e=>!e.node.path.contains i).map Ze) (E0++[x]) 120:=fun x=>ZH (by rw [List.nil_append,List.length_singleton];omega) (by decide)
   have hs:=Wg (fun e:Zq=>!e.node.path.contains i) f hj'
   refine Zh (ZU hj' _) (Zd (Zs4 f[j].node.path (by omega) i) (Zc (fun h2=>Zh (ZU hj' _) (Zp (hr _) ?_)) fun h2=>?_))
   ·rw [YD hj (by omega)]
    refine next hj' _ ?_
    rw [hs,if_pos h2,List.map_append]
    rfl
   ·rw [YD hj (by omega)]
    refine next hj' _ ?_
    rw [hs,if_neg h2,List.append_nil]
  ·simp only [CQ,List.length_map] at h
   rw [hJ,List.take_of_length_le (by omega)]
   exact Zd (s11 _ hF2) (Zf rfl)
 obtain ⟨r,e,rfl⟩:=key
 exact e
theorem Jp (l:List Int):(Za l).length=l.length:=by simp [Za]
theorem s17 (l:List Int) (hl:l.length < 900) (x:Int):g17 (Za l) x=some (Za (Zd5 l x)):=by
 have fin:∀ j,j≤l.length→ZaE l x=j→Ret (fun y=>y=Za (Zd5 l x)) (ZA ((0:Int)≤(j:Int))<|ZA ((j:Int)≤(List.length (Za l):Int))<|ZA (Jb E0 (List.take (Int.toNat (j:Int)) (Za l)) 8)<|ZA (Jb (List.take (Int.toNat (j:Int)) (Za l)) (E0++[[AV.val (.int .i64 x)]]) 8)<|ZA ((0:Int)≤(j:Int))<|ZA ((j:Int)≤(List.length (Za l):Int))<|ZA (Jb ((List.take (Int.toNat (j:Int)) (Za l))++(E0++[[AV.val (.int .i64 x)]])) (List.drop (Int.toNat (j:Int)) (Za l)) 8)<|some ((((List.take (Int.toNat (j:Int)) (Za l))++(E0++[[AV.val (.int .i64 x)]]))++(List.drop (Int.toNat (j:Int)) (Za l)))))∨l[j]? = some x:=by
  intro j hj hp
  by_cases hx:l[j]? = some x
  ·exact .inr hx
  ·refine .inl (Zp (by omega) (Zp (by rw [Jp];omega) (Zp (ZH (by simp [Jp];omega) (by decide)) (Zp (ZH (by simp [Jp];omega) (by decide)) (Zp (by omega) (Zp (by rw [Jp];omega) (Zp (ZH (by simp [Jp];omega) (by decide)) (Zf ?_))))))))
   unfold Zd5
   rw [hp,if_neg hx]
   simp [Za,List.map_take,List.map_drop,Zht]
 have key:Ret (fun y=>y=Za (Zd5 l x)) (g17 (Za l) x):=by
  rw [Zo7]
  refine ZR (F:=fun k (_:Unit) z=>Zl4 k (Za l) x z) l.length (fun k _=>∀ j (hj:j < l.length),j < k→l[j] < x) (by omega) (fun k j _ hj hJ next=>?_) () (fun j _ h=>absurd h (Nat.not_lt_zero j))
  refine Zh (ZlT ..) (Zc (fun h=>?_) fun h=>?_)
  ·simp only [CQ,Jp] at h
   have hj':j < l.length:=by omega
   refine Zh (JA hj' _) (Zc (fun h2=>?_) fun h2=>?_)
   ·simp only [CQ] at h2
    rw [YD hj (by omega)]
    refine next hj' () fun m hm hmj=>?_
    by_cases hmj':m=j
    ·subst hmj';exact h2
    ·exact hJ m hm (by omega)
   ·simp only [CQ] at h2
    have hp:ZaE l x=j:=Zgy _ l hj' (by simp;omega) fun m hm hmj=>by have:=hJ m hm hmj;simp;omega
    refine Zc (fun _=>Zh (JA hj' _) (Zc (fun h3=>Zf ?_) fun h3=>?_)) fun h3=>?_
    ·simp only [CQ] at h3
     unfold Zd5
     rw [hp,List.getElem?_eq_getElem hj',h3,if_pos rfl]
    ·simp only [CQ] at h3
     rcases fin j (by omega) hp with h4 | h4
     ·exact h4
     ·rw [List.getElem?_eq_getElem hj',Option.some.injEq] at h4
      exact absurd h4 h3
    ·exfalso;simp only [CQ,Jp] at h3;omega
  ·simp only [CQ,Jp] at h
   have hje:j=l.length:=by omega
   have hp:ZaE l x=j:=by rw [hje];exact ZaC _ l fun m hm=>by have:=hJ m hm (by omega);simp;omega
   refine Zc (fun h3=>?_) fun _=>?_
   ·exfalso;simp only [CQ,Jp] at h3;omega
   ·rcases fin j (by omega) hp with h4 | h4
    ·exact h4
    ·rw [List.getElem?_eq_none (by omega)] at h4
     cases h4
 obtain ⟨r,e,rfl⟩:=key
 exact e
theorem ZvT (x:LL) (h:x.length < 1000):ZtH x=some x:=by
 rw [Zne]
 have hr:Jb E0 x 8:=ZH (by simp;omega) (by decide)
 cases x with
 | nil => simp [ZhX, ZA, hr]
 | cons a x => simp [ZhX, ZA, hr]
theorem s49 (es qs:LL) (r:Req) (p:Int) (w dm:LL) (P:List Int) (hP:P.length < 900) (kind:Int):g49 0 0 16 false es qs r.id.core r.id.op r.id.part r.call.kind r.call.slot r.call.dest r.call.core r.call.mask r.call.object r.call.bits r.call.level r.call.offset r.call.count r.call.index r.call.addr r.region r.width r.src.id.core r.src.id.op r.src.id.part (Zb r.src.path) r.src.cap.kind r.src.cap.base r.src.cap.bits r.src.cap.rights r.src.cap.width r.src.cap.level r.src.cap.device p w (Za P) dm kind=some (P.map (fun z=>mM kind z 0 r.id 0 false E0),oT es qs r p (Za P) (Za P) dm):=by
 have key:Ret (fun x=>x=((P.map (fun z=>mM kind z 0 r.id 0 false E0),oT es qs r p (Za P) (Za P) dm):Qt12)) (g49 0 0 16 false es qs r.id.core r.id.op r.id.part r.call.kind r.call.slot r.call.dest r.call.core r.call.mask r.call.object r.call.bits r.call.level r.call.offset r.call.count r.call.index r.call.addr r.region r.width r.src.id.core r.src.id.op r.src.id.part (Zb r.src.path) r.src.cap.kind r.src.cap.base r.src.cap.bits r.src.cap.rights r.src.cap.width r.src.cap.level r.src.cap.device p w (Za P) dm kind):=by
  rw [ZqD,ZvT _ (by rw [Jp];omega)]
  simp only [Option.bind_some,Jp]
  refine ZR (F:=fun k (s:LL) i=>Zlv k 0 0 16 false es qs r.id.core r.id.op r.id.part r.call.kind r.call.slot r.call.dest r.call.core r.call.mask r.call.object r.call.bits r.call.level r.call.offset r.call.count r.call.index r.call.addr r.region r.width r.src.id.core r.src.id.op r.src.id.part (Zb r.src.path) r.src.cap.kind r.src.cap.base r.src.cap.bits r.src.cap.rights r.src.cap.width r.src.cap.level r.src.cap.device p (Za P) (Za P) dm kind s (Za P) (P.length:Int) i) P.length (fun j s=>s=(P.take j).map (fun z=>mM kind z 0 r.id 0 false E0)) (by omega) (fun k j s hj hJ next=>?_) E0 rfl
  refine Zh (ZkZ ..) (Zc (fun h=>?_) fun h=>Zf ?_)
  ·simp only [CQ] at h
   have hj':j < P.length:=by omega
   subst hJ
   refine Zh (JA hj' _) (Zd (Zio ..) (Zp (ZH (by simp;omega) (by decide)) ?_))
   rw [YD hj (by omega)]
   refine next hj' _ ?_
   rw [List.take_add_one,List.getElem?_eq_getElem hj',Option.toList_some,List.map_append]
   rfl
  ·simp only [CQ] at h
   rw [hJ,List.take_of_length_le (by omega)]
   rfl
 obtain ⟨r,e,rfl⟩:=key
 exact e
end Go.Proofs.YtlgmnddelljbmaaGreat
end

section
namespace Go.Proofs.YtlgmnddelljbmaaGreat
open Go Go.AM
set_option linter.unusedSimpArgs false
set_option linter.unusedVariables false
set_option maxRecDepth 100000
def mI (k to:Int) (i:Id) (ids:LL):List AV:=setCells (mM k to 0 i 0 false E0) 40 [.slice false 3 ids]
def mV (k to slot:Int) (i:Id) (err:Int) (st:Bool) (ids nodes:LL):Qt3:=(k,0,0,to,0,0,slot,i.core,i.op,i.part,err,st,0,0,0,0,0,0,0,0,0,0,0,0,0,0,0,0,0,0,0,0,E0,0,0,0,0,0,0,false,ids,nodes,E0,E0,0,0,E0,E0,E0,E0,E0,E0,E0,E0,0,0,E0,E0,E0,E0,E0,E0,E0,E0,false,0,E0,E0,E0,E0,E0,E0,E0,E0)
theorem ofm (k to slot:Int) (i:Id) (err:Int) (st:Bool) (nodes:LL):Zgr hs0 (mM k to slot i err st nodes)=some (mV k to slot i err st E0 nodes):=rfl
theorem ofi (k to:Int) (i:Id) (ids:LL):Zgr hs0 (mI k to i ids)=some (mV k to 0 i 0 false ids E0):=rfl
theorem ZcJ {γ:Type} (k to slot:Int) (i:Id) (err:Int) (st:Bool) (nodes:LL) (q:Qt3→Option γ):Zt [mM k to slot i err st nodes] 0 hs0 q=q (mV k to slot i err st E0 nodes):=@Y5 γ [mM k to slot i err st nodes] 0 hs0 (mM k to slot i err st nodes) (mV k to slot i err st E0 nodes) q (Int.le_refl 0) rfl rfl
theorem ZoQ (es qs:LL) (r:Req) (p:Int) (w pa dm:LL) (P:List Int) (hP:P.length < 1000) (M:LL) (hM:ZaD .any M 0=true) :
  Zck Jn 0 0 16 false es qs r.id.core r.id.op r.id.part r.call.kind r.call.slot r.call.dest r.call.core r.call.mask r.call.object r.call.bits r.call.level r.call.offset r.call.count r.call.index r.call.addr r.region r.width r.src.id.core r.src.id.op r.src.id.part (Zb r.src.path) r.src.cap.kind r.src.cap.base r.src.cap.bits r.src.cap.rights r.src.cap.width r.src.cap.level r.src.cap.device p w pa dm (P.map (fun z=>mM 6 z 0 r.id 0 false E0)) (List.length (P.map (fun z=>mM 6 z 0 r.id 0 false E0)):Int) 0 M=some (P.map (fun z=>mI 6 z r.id (JL M z)),oT es qs r p w pa dm):=by
 have key:Ret (fun x=>x=((P.map (fun z=>mI 6 z r.id (JL M z)),oT es qs r p w pa dm):Qt12)) (Zck Jn 0 0 16 false es qs r.id.core r.id.op r.id.part r.call.kind r.call.slot r.call.dest r.call.core r.call.mask r.call.object r.call.bits r.call.level r.call.offset r.call.count r.call.index r.call.addr r.region r.width r.src.id.core r.src.id.op r.src.id.part (Zb r.src.path) r.src.cap.kind r.src.cap.base r.src.cap.bits r.src.cap.rights r.src.cap.width r.src.cap.level r.src.cap.device p w pa dm (P.map (fun z=>mM 6 z 0 r.id 0 false E0)) (List.length (P.map (fun z=>mM 6 z 0 r.id 0 false E0)):Int) 0 M):=by
  rw [List.length_map]
  refine ZR (F:=fun k (s:LL) i=>Zck k 0 0 16 false es qs r.id.core r.id.op r.id.part r.call.kind r.call.slot r.call.dest r.call.core r.call.mask r.call.object r.call.bits r.call.level r.call.offset r.call.count r.call.index r.call.addr r.region r.width r.src.id.core r.src.id.op r.src.id.part (Zb r.src.path) r.src.cap.kind r.src.cap.base r.src.cap.bits r.src.cap.rights r.src.cap.width r.src.cap.level r.src.cap.device p w pa dm s (P.length:Int) i M) P.length (fun j s=>s.length=P.length∧∀ i (hi:i < P.length),s[i]? = some (if i < j then mI 6 P[i] r.id (JL M P[i]) else mM 6 P[i] 0 r.id 0 false E0)) hP (fun k j s hj hJ next=>?_) _ ⟨by simp,fun i hi=>by simp [List.getElem?_eq_getElem hi]⟩
  obtain ⟨hl,hs⟩:=hJ
  refine Zh (Zjp ..) (Zc (fun h=>?_) fun h=>Zf ?_)
  ·simp only [CQ] at h
   have hj':j < P.length:=by omega
   have hat:=hs j hj'
   rw [if_neg (Nat.lt_irrefl j)] at hat
   have r1:(0:Int)≤(j:Int):=by omega
   have r2:(j:Int) < (s.length:Int):=by omega
   refine Zp r1 (Zp r2 (Zh (Y5 (r:=mV 6 P[j] 0 r.id 0 false E0 E0) _ r1 hat rfl) (Zp hM (Zp r1 (Zp r2 (Zp r1 (Zp r2 ?_)))))))
   rw [YD hj hP]
   refine next hj' _ ⟨?_,fun i hi=>?_⟩
   ·unfold JJ;rw [List.length_modify];exact hl
   ·unfold JJ
    rw [List.getElem?_modify,hs i hi]
    by_cases hij:i=j
    ·subst hij
     rw [if_neg (Nat.lt_irrefl i),if_pos (Nat.lt_succ_self i)]
     show some (if (i:Int).toNat=i then _ else _)=_
     rw [if_pos (by omega)]
     rfl
    ·have hne:¬ (j:Int).toNat=i:=by omega
     by_cases hlt:i < j
     ·rw [if_pos hlt,if_pos (show i < j+1 by omega)]
      show some (if (j:Int).toNat=i then _ else _)=_
      rw [if_neg hne]
     ·rw [if_neg hlt,if_neg (show ¬ i < j+1 by omega)]
      show some (if (j:Int).toNat=i then _ else _)=_
      rw [if_neg hne]
  ·simp only [CQ] at h
   have hs':s=P.map (fun z=>mI 6 z r.id (JL M z)):=by
    refine List.ext_getElem? fun i=>?_
    rcases Nat.lt_or_ge i P.length with hi | hi
    ·rw [hs i hi,if_pos (by omega),List.getElem?_map,List.getElem?_eq_getElem hi];rfl
    ·rw [List.getElem?_eq_none (by omega),List.getElem?_eq_none (by simp;omega)]
   rw [hs']
   rfl
 obtain ⟨x,e,rfl⟩:=key
 exact e
theorem ZtC (f:List Zq) (i:Id) (c0:Int) (j:Nat) (hj:j < f.length) (hc:0≤f[j].core∧f[j].core < 32) (M:LL) (h:Za3 M j (fun z=>z=c0∨∃ e∈bl (f.take j) i,e.core=z)) :
  (f[j].node.path.contains i=true→∀ x:List AV,Za3 (Kj (YB M f[j].core) f[j].core 3 ((JL M f[j].core)++(E0++[x]))) (j+1) (fun z=>z=c0∨∃ e∈bl (f.take (j+1)) i,e.core=z))∧
  (¬ f[j].node.path.contains i=true→Za3 M (j+1) (fun z=>z=c0∨∃ e∈bl (f.take (j+1)) i,e.core=z)):=by
 have hs:=Wg (fun e:Zq=>e.node.path.contains i) f hj
 have hg:=h.get f[j].core
 refine ⟨fun h2 x=>?_,fun h2=>?_⟩
 ·obtain ⟨kvs,h1,h3,h4,h5,h6⟩:=h.put f[j].core hc ((JL M f[j].core)++(E0++[x])) (by simp;omega)
  refine ⟨kvs,h1,h3,h4,h5,fun z=>(h6 z).trans ?_⟩
  show _↔z=c0∨∃ e∈(f.take (j+1)).filter _,e.core=z
  rw [hs,if_pos h2]
  constructor
  ·rintro ((h | ⟨e,he,h⟩) | h)
   ·exact .inl h
   ·exact .inr ⟨e,List.mem_append.2 (.inl he),h⟩
   ·exact .inr ⟨f[j],List.mem_append.2 (.inr (List.mem_singleton.2 rfl)),h.symm⟩
  ·rintro (h | ⟨e,he,h⟩)
   ·exact .inl (.inl h)
   ·rcases List.mem_append.1 he with he | he
    ·exact .inl (.inr ⟨e,he,h⟩)
    ·rw [List.mem_singleton.1 he] at h
     exact .inr h.symm
 ·obtain ⟨kvs,h1,h3,h4,h5,h6⟩:=h
  refine ⟨kvs,h1,fun row hr=>?_,h4,by omega,fun z=>(h6 z).trans ?_⟩
  ·obtain ⟨z,ys,e1,e2,e3,e4⟩:=h3 row hr
   exact ⟨z,ys,e1,e2,e3,by omega⟩
  ·show _↔z=c0∨∃ e∈(f.take (j+1)).filter _,e.core=z
   rw [hs,if_neg h2,List.append_nil]
   rfl
theorem Zu6 (f:List Zq) (i:Id) (c0:Int) (j:Nat) (hj:f.length≤j) (M:LL) (h:Za3 M j (fun z=>z=c0∨∃ e∈bl (f.take j) i,e.core=z)):KV M=Za (Yl (bl f i) c0):=by
 rw [List.take_of_length_le hj] at h
 have hS:Za3 M j (·∈Yl (bl f i) c0):=by
  obtain ⟨kvs,h1,h3,h4,h5,h6⟩:=h
  refine ⟨kvs,h1,h3,h4,h5,fun z=>(h6 z).trans ?_⟩
  show _↔z∈List.foldl _ _ _
  rw [Zfb,List.mem_singleton]
 exact hS.parts (Zea _ _ (List.pairwise_singleton _ _))
theorem Zv5 (f:List Zq) (i:Id) (c0:Int) (h:0≤c0∧c0 < 32):Za3 (Kj (E0++[[AV.slice false 2 E0]]) c0 3 E0) 0 (fun z=>z=c0∨∃ e∈bl (f.take 0) i,e.core=z):=by
 obtain ⟨kvs,h1,h3,h4,h5,h6⟩:=Zj0 c0 h
 exact ⟨kvs,h1,h3,h4,h5,fun z=>(h6 z).trans (by simp [bl])⟩
theorem Za6 (b:List Zq):∀ (q:List Int),(b.foldl (fun p e=>Zd5 p e.core) q).length≤q.length+b.length:=by
 induction b with
 | nil => intro q; simp
 | cons e b ih =>
  intro q
  rw [List.foldl_cons]
  have h1:=ih (Zd5 q e.core)
  have h2:(Zd5 q e.core).length≤q.length+1:=by
   unfold Zd5
   split
   ·omega
   ·have:ZaE q e.core≤q.length:=Wf _ _
    simp;omega
  simp only [List.length_cons]
  omega
theorem Zsy (f:List Zq) (hF:Zab f) (hl:f.length < 200) (n:ZbI) (qs:LL) (r:Req) (p:Int) (w pa dm:LL) (hne:bl f n.id = []) :
  ZoH 0 0 16 false (f.map Ze) qs r.id.core r.id.op r.id.part r.call.kind r.call.slot r.call.dest r.call.core r.call.mask r.call.object r.call.bits r.call.level r.call.offset r.call.count r.call.index r.call.addr r.region r.width r.src.id.core r.src.id.op r.src.id.part (Zb r.src.path) r.src.cap.kind r.src.cap.base r.src.cap.bits r.src.cap.rights r.src.cap.width r.src.cap.level r.src.cap.device p w pa dm n.id.core n.id.op n.id.part (Zb n.path) n.cap.kind n.cap.base n.cap.bits n.cap.rights n.cap.width n.cap.level n.cap.device=some ([mM 2 r.id.core 0 r.id 0 false E0],oT (f.map Ze) qs r 5 E0 pa E0):=by
 have key:Ret (fun x=>x=(([mM 2 r.id.core 0 r.id 0 false E0],oT (f.map Ze) qs r 5 E0 pa E0):Qt12)) (ZoH 0 0 16 false (f.map Ze) qs r.id.core r.id.op r.id.part r.call.kind r.call.slot r.call.dest r.call.core r.call.mask r.call.object r.call.bits r.call.level r.call.offset r.call.count r.call.index r.call.addr r.region r.width r.src.id.core r.src.id.op r.src.id.part (Zb r.src.path) r.src.cap.kind r.src.cap.base r.src.cap.bits r.src.cap.rights r.src.cap.width r.src.cap.level r.src.cap.device p w pa dm n.id.core n.id.op n.id.part (Zb n.path) n.cap.kind n.cap.base n.cap.bits n.cap.rights n.cap.width n.cap.level n.cap.device):=by
  rw [Zkd]
  have e:=ZuC f hF (by omega) n.id
  rw [hne] at e
  exact Zd e (Zc (fun _=>Zd (s47 (f.map Ze) qs r p w pa E0 0 false E0) (Zf rfl)) fun h=>(h (by kernel_rfl)).elim)
 obtain ⟨x,e,rfl⟩:=key
 exact e
theorem ZuF (f:List Zq) (hl:f.length < 900) (ha:f.Pairwise fun a b=>lte a b=true) (k:Nat) (hk:k < f.length) (qs:LL) (r:Req) (p:Int) (w pa dm:LL) (h1:r.src.id=f[k].node.id) (h2:r.id.core=f[k].core) (h3:r.call.slot=f[k].slot) (hk6:r.call.kind=6) {Q:Qt12→Prop} (h:Ret Q (ZoH 0 0 16 false (f.map Ze) qs r.id.core r.id.op r.id.part r.call.kind r.call.slot r.call.dest r.call.core r.call.mask r.call.object r.call.bits r.call.level r.call.offset r.call.count r.call.index r.call.addr r.region r.width r.src.id.core r.src.id.op r.src.id.part (Zb r.src.path) r.src.cap.kind r.src.cap.base r.src.cap.bits r.src.cap.rights r.src.cap.width r.src.cap.level r.src.cap.device p w pa dm f[k].node.id.core f[k].node.id.op f[k].node.id.part (Zb f[k].node.path) f[k].node.cap.kind f[k].node.cap.base f[k].node.cap.bits f[k].node.cap.rights f[k].node.cap.width f[k].node.cap.level f[k].node.cap.device)):Ret Q (g95 0 0 16 false (f.map Ze) qs r.id.core r.id.op r.id.part r.call.kind r.call.slot r.call.dest r.call.core r.call.mask r.call.object r.call.bits r.call.level r.call.offset r.call.count r.call.index r.call.addr r.region r.width r.src.id.core r.src.id.op r.src.id.part (Zb r.src.path) r.src.cap.kind r.src.cap.base r.src.cap.bits r.src.cap.rights r.src.cap.width r.src.cap.level r.src.cap.device p w pa dm):=by
 rw [ZqU]
 refine Zc (fun h=>?_) fun _=>Zc (fun h=>?_) fun _=>Zc (fun h=>?_) fun _=>Zc (fun h=>?_) fun _=>Zd (ZvZ f hl ha k hk qs r p w pa dm h1 h2 h3) (Zc (fun h=>by cases h) fun _=>Zc (fun h=>?_) fun _=>ZJ h fun x hx=>Zf hx)
 ·exfalso;simp only [CQ] at h;omega
 ·exfalso;simp only [CQ] at h;omega
 ·exfalso;simp only [CQ] at h;omega
 ·exfalso;simp only [CQ] at h;omega
 ·exfalso;simp only [CQ] at h;omega
end Go.Proofs.YtlgmnddelljbmaaGreat
end

section
namespace Go.Proofs.YtlgmnddelljbmaaGreat
open Go Go.AM
set_option linter.unusedSimpArgs false
set_option linter.unusedVariables false
set_option maxRecDepth 100000
theorem Zvx (f:List Zq) (hF:Zab f) (hl:f.length < 200) (hc:∀ e∈f,0≤e.core∧e.core < 32) (n:ZbI) (qs:LL) (r:Req) (hrc:0≤r.id.core∧r.id.core < 32) (p:Int) (w pa dm:LL) (hne:bl f n.id≠[]) :
  Ret (fun x=>∃ h:Int→LL,x=((Yl (bl f n.id) r.id.core).map (fun z=>mI 6 z r.id (h z)),oT (f.map Ze) qs r 2 (Za (Yl (bl f n.id) r.id.core)) (Za (Yl (bl f n.id) r.id.core)) (Zb (Z8 (bl f n.id))))) (ZoH 0 0 16 false (f.map Ze) qs r.id.core r.id.op r.id.part r.call.kind r.call.slot r.call.dest r.call.core r.call.mask r.call.object r.call.bits r.call.level r.call.offset r.call.count r.call.index r.call.addr r.region r.width r.src.id.core r.src.id.op r.src.id.part (Zb r.src.path) r.src.cap.kind r.src.cap.base r.src.cap.bits r.src.cap.rights r.src.cap.width r.src.cap.level r.src.cap.device p w pa dm n.id.core n.id.op n.id.part (Zb n.path) n.cap.kind n.cap.base n.cap.bits n.cap.rights n.cap.width n.cap.level n.cap.device):=by
 have hbl:(bl f n.id).length≤f.length:=List.length_filter_le _ _
 have hPlen:(Yl (bl f n.id) r.id.core).length < 900:=by
  have:=Za6 (bl f n.id) [r.id.core]
  simp only [List.length_singleton] at this
  show ((bl f n.id).foldl _ [r.id.core]).length < 900
  omega
 rw [Zkd]
 refine Zd (ZuC f hF (by omega) n.id) (Zc (fun h=>?_) fun _=>Zp (by simp [ZaD]) ?_)
 ·exfalso
  simp only [CQ,Z5,Z8,List.length_map] at h
  exact hne (List.eq_nil_of_length_eq_zero (by omega))
 ·rw [List.length_map]
  refine ZR (F:=fun k (M:LL) i=>Zfg k 0 0 16 false (f.map Ze) qs r.id.core r.id.op r.id.part r.call.kind r.call.slot r.call.dest r.call.core r.call.mask r.call.object r.call.bits r.call.level r.call.offset r.call.count r.call.index r.call.addr r.region r.width r.src.id.core r.src.id.op r.src.id.part (Zb r.src.path) r.src.cap.kind r.src.cap.base r.src.cap.bits r.src.cap.rights r.src.cap.width r.src.cap.level r.src.cap.device p w pa (Zb (Z8 (bl f n.id))) n.id.core n.id.op n.id.part (Zb n.path) n.cap.kind n.cap.base n.cap.bits n.cap.rights n.cap.width n.cap.level n.cap.device (f.map Ze) (f.length:Int) i M) f.length (fun j M=>Za3 M j (fun z=>z=r.id.core∨∃ e∈bl (f.take j) n.id,e.core=z)) (by omega) (fun k j M hj hJ next=>?_) _ ?_
  ·refine Zh (Zjr ..) (Zc (fun h=>?_) fun h=>?_)
   ·simp only [CQ] at h
    have hj':j < f.length:=by omega
    have hp:=hF.path f[j] (List.getElem_mem hj')
    have hcj:=hc f[j] (List.getElem_mem hj')
    have hg:=hJ.get f[j].core
    obtain ⟨m1,m2⟩:=ZtC f n.id r.id.core j hj' hcj M hJ
    refine Zh (ZU hj' _) (Zd (ZuO f[j] hp n.id) (Zc (fun h2=>Zp hJ.full (Zp (ZH (show (JL M f[j].core).length+_≤4096 by simp;omega) (by decide)) (Zp (hJ.at f[j].core) ?_))) fun h2=>?_))
    ·rw [YD hj (by omega)]
     exact next hj' _ (m1 h2 _)
    ·rw [YD hj (by omega)]
     exact next hj' _ (m2 h2)
   ·simp only [CQ] at h
    have hK:=Zu6 f n.id r.id.core j (by omega) M hJ
    refine Zp hJ.any (Zp (hJ.keys (by omega)) ?_)
    rw [hK]
    refine Zd (s49 (f.map Ze) qs r 2 w (Zb (Z8 (bl f n.id))) (Yl (bl f n.id) r.id.core) hPlen 6) ?_
    exact Zh (ZoQ (f.map Ze) qs r 2 (Za (Yl (bl f n.id) r.id.core)) (Za (Yl (bl f n.id) r.id.core)) (Zb (Z8 (bl f n.id))) (Yl (bl f n.id) r.id.core) (by omega) M hJ.any) (Zf ⟨JL M,rfl⟩)
  ·exact Zv5 f n.id r.id.core hrc
end Go.Proofs.YtlgmnddelljbmaaGreat
end

section
namespace Go.Proofs.YtlgmnddelljbmaaGreat
open Go Go.AM
set_option linter.unusedSimpArgs false
set_option linter.unusedVariables false
set_option maxRecDepth 100000
set_option synthInstance.maxSize 2000
noncomputable def Zh1 (k:Nat) (x0:Int) (x1:Int) (x2:Int) (x3:Bool) (x4:LL) (x5:LL) (x6:Int) (x7:Int) (x8:Int) (x9:Int) (x10:Int) (x11:Int) (x12:Int) (x13:Int) (x14:Int) (x15:Int) (x16:Int) (x17:Int) (x18:Int) (x19:Int) (x20:Int) (x21:Int) (x22:Int) (x23:Int) (x24:Int) (x25:Int) (x26:LL) (x27:Int) (x28:Int) (x29:Int) (x30:Int) (x31:Int) (x32:Int) (x33:Bool) (x34:Int) (x35:LL) (x36:LL) (x37:LL) (x38:LL) (x39:Int) (x40:Int):Option (LL×LL×Int×Int×Int×Bool×LL×LL×Int×Int×Int×Int×Int×Int×Int×Int×Int×Int×Int×Int×Int×Int×Int×Int×Int×Int×Int×Int×LL×Int×Int×Int×Int×Int×Int×Bool×Int×LL×LL×LL):=F18.lp [0,1,1,1,1,0,0,1,0,0,0,1,0,0,2,0] 0 r0 k [.i x0,.i x1,.i x2,.b x3,.l x4,.l x5,.i x6,.i x7,.i x8,.i x9,.i x10,.i x11,.i x12,.i x13,.i x14,.i x15,.i x16,.i x17,.i x18,.i x19,.i x20,.i x21,.i x22,.i x23,.i x24,.i x25,.l x26,.i x27,.i x28,.i x29,.i x30,.i x31,.i x32,.b x33,.i x34,.l x35,.l x36,.l x37,.l x38,.i x39,.i x40]
theorem ZlK (k:Nat) (x0:Int) (x1:Int) (x2:Int) (x3:Bool) (x4:LL) (x5:LL) (x6:Int) (x7:Int) (x8:Int) (x9:Int) (x10:Int) (x11:Int) (x12:Int) (x13:Int) (x14:Int) (x15:Int) (x16:Int) (x17:Int) (x18:Int) (x19:Int) (x20:Int) (x21:Int) (x22:Int) (x23:Int) (x24:Int) (x25:Int) (x26:LL) (x27:Int) (x28:Int) (x29:Int) (x30:Int) (x31:Int) (x32:Int) (x33:Bool) (x34:Int) (x35:LL) (x36:LL) (x37:LL) (x38:LL) (x39:Int) (x40:Int):Zh1 (k+1) x0 x1 x2 x3 x4 x5 x6 x7 x8 x9 x10 x11 x12 x13 x14 x15 x16 x17 x18 x19 x20 x21 x22 x23 x24 x25 x26 x27 x28 x29 x30 x31 x32 x33 x34 x35 x36 x37 x38 x39 x40 =
 (if (cop .lss x40 x39)=true then
 Zt x38 x40 [.int .i64,.int .i64,.int .i64] fun (r41:Int×Int×Int)=>
 (g46 x4 r41.1 r41.2.1 r41.2.2).bind fun (r44:LL×Bool)=>
 Zh1 k x0 x1 x2 x3 r44.1 x5 x6 x7 x8 x9 x10 x11 x12 x13 x14 x15 x16 x17 x18 x19 x20 x21 x22 x23 x24 x25 x26 x27 x28 x29 x30 x31 x32 x33 x34 x35 x36 x37 x38 x39 (iop .add .i64 x40 1)
 else
 (g49 x0 x1 x2 x3 x4 x5 x6 x7 x8 x9 x10 x11 x12 x13 x14 x15 x16 x17 x18 x19 x20 x21 x22 x23 x24 x25 x26 x27 x28 x29 x30 x31 x32 x33 x34 x35 x36 x37 10).bind fun (r41:LL×Int×Int×Int×Bool×LL×LL×Int×Int×Int×Int×Int×Int×Int×Int×Int×Int×Int×Int×Int×Int×Int×Int×Int×Int×Int×Int×LL×Int×Int×Int×Int×Int×Int×Bool×Int×LL×LL×LL)=>
 ZA ((r41.2.2.2.2.2.2.2.1:Int)≤x6)<|
 ZA ((x6:Int)≤r41.2.2.2.2.2.2.2.1)<|
 ZA ((r41.2.2.2.2.2.2.2.2.1:Int)≤x7)<|
 ZA ((x7:Int)≤r41.2.2.2.2.2.2.2.2.1)<|
 ZA ((r41.2.2.2.2.2.2.2.2.2.1:Int)≤x8)<|
 ZA ((x8:Int)≤r41.2.2.2.2.2.2.2.2.2.1)<|
 some (r41.1,(E0++[[AV.val (.int .i64 x6),AV.val (.int .i64 x7),AV.val (.int .i64 x8),AV.val (.bool true)]]),r41.2.1,r41.2.2.1,r41.2.2.2.1,r41.2.2.2.2.1,r41.2.2.2.2.2.1,r41.2.2.2.2.2.2.1,x6,x7,x8,r41.2.2.2.2.2.2.2.2.2.2.1,r41.2.2.2.2.2.2.2.2.2.2.2.1,r41.2.2.2.2.2.2.2.2.2.2.2.2.1,r41.2.2.2.2.2.2.2.2.2.2.2.2.2.1,r41.2.2.2.2.2.2.2.2.2.2.2.2.2.2.1,r41.2.2.2.2.2.2.2.2.2.2.2.2.2.2.2.1,r41.2.2.2.2.2.2.2.2.2.2.2.2.2.2.2.2.1,r41.2.2.2.2.2.2.2.2.2.2.2.2.2.2.2.2.2.1,r41.2.2.2.2.2.2.2.2.2.2.2.2.2.2.2.2.2.2.1,r41.2.2.2.2.2.2.2.2.2.2.2.2.2.2.2.2.2.2.2.1,r41.2.2.2.2.2.2.2.2.2.2.2.2.2.2.2.2.2.2.2.2.1,r41.2.2.2.2.2.2.2.2.2.2.2.2.2.2.2.2.2.2.2.2.2.1,r41.2.2.2.2.2.2.2.2.2.2.2.2.2.2.2.2.2.2.2.2.2.2.1,r41.2.2.2.2.2.2.2.2.2.2.2.2.2.2.2.2.2.2.2.2.2.2.2.1,r41.2.2.2.2.2.2.2.2.2.2.2.2.2.2.2.2.2.2.2.2.2.2.2.2.1,r41.2.2.2.2.2.2.2.2.2.2.2.2.2.2.2.2.2.2.2.2.2.2.2.2.2.1,r41.2.2.2.2.2.2.2.2.2.2.2.2.2.2.2.2.2.2.2.2.2.2.2.2.2.2.1,r41.2.2.2.2.2.2.2.2.2.2.2.2.2.2.2.2.2.2.2.2.2.2.2.2.2.2.2.1,r41.2.2.2.2.2.2.2.2.2.2.2.2.2.2.2.2.2.2.2.2.2.2.2.2.2.2.2.2.1,r41.2.2.2.2.2.2.2.2.2.2.2.2.2.2.2.2.2.2.2.2.2.2.2.2.2.2.2.2.2.1,r41.2.2.2.2.2.2.2.2.2.2.2.2.2.2.2.2.2.2.2.2.2.2.2.2.2.2.2.2.2.2.1,r41.2.2.2.2.2.2.2.2.2.2.2.2.2.2.2.2.2.2.2.2.2.2.2.2.2.2.2.2.2.2.2.1,r41.2.2.2.2.2.2.2.2.2.2.2.2.2.2.2.2.2.2.2.2.2.2.2.2.2.2.2.2.2.2.2.2.1,r41.2.2.2.2.2.2.2.2.2.2.2.2.2.2.2.2.2.2.2.2.2.2.2.2.2.2.2.2.2.2.2.2.2.1,r41.2.2.2.2.2.2.2.2.2.2.2.2.2.2.2.2.2.2.2.2.2.2.2.2.2.2.2.2.2.2.2.2.2.2.1,r41.2.2.2.2.2.2.2.2.2.2.2.2.2.2.2.2.2.2.2.2.2.2.2.2.2.2.2.2.2.2.2.2.2.2.2.1,r41.2.2.2.2.2.2.2.2.2.2.2.2.2.2.2.2.2.2.2.2.2.2.2.2.2.2.2.2.2.2.2.2.2.2.2.2.1,r41.2.2.2.2.2.2.2.2.2.2.2.2.2.2.2.2.2.2.2.2.2.2.2.2.2.2.2.2.2.2.2.2.2.2.2.2.2.1,r41.2.2.2.2.2.2.2.2.2.2.2.2.2.2.2.2.2.2.2.2.2.2.2.2.2.2.2.2.2.2.2.2.2.2.2.2.2.2)):=by kernel_rfl
theorem Zpa (es w pa dm:LL) (r:Req) (f:Int):g18 0 0 16 false es E0 r.id.core r.id.op r.id.part r.call.kind r.call.slot r.call.dest r.call.core r.call.mask r.call.object r.call.bits r.call.level r.call.offset r.call.count r.call.index r.call.addr r.region r.width r.src.id.core r.src.id.op r.src.id.part (Zb r.src.path) r.src.cap.kind r.src.cap.base r.src.cap.bits r.src.cap.rights r.src.cap.width r.src.cap.level r.src.cap.device 2 w pa dm 7 0 f 0 0 0 0 r.id.core r.id.op r.id.part 0 false 0 0 0 0 0 0 0 0 0 0 0 0 0 0 0 0 0 0 0 0 E0 0 0 0 0 0 0 false E0 E0 E0 E0 0 0 E0 E0 E0 E0 E0 E0 E0 E0 0 0 E0 E0 E0 E0 E0 E0 E0 E0 false 0 E0 E0 E0 E0 E0 E0 E0 E0 =
 ((g45 7 0 f 0 0 0 0 r.id.core r.id.op r.id.part 0 false 0 0 0 0 0 0 0 0 0 0 0 0 0 0 0 0 0 0 0 0 E0 0 0 0 0 0 0 false E0 E0 E0 E0 0 0 E0 E0 E0 E0 E0 E0 E0 E0 0 0 E0 E0 E0 E0 E0 E0 E0 E0 false 0 E0 E0 E0 E0 E0 E0 E0 E0).bind fun r112=>
 if (!r112)=true then
 some (E0,E0,0,0,16,false,es,E0,r.id.core,r.id.op,r.id.part,r.call.kind,r.call.slot,r.call.dest,r.call.core,r.call.mask,r.call.object,r.call.bits,r.call.level,r.call.offset,r.call.count,r.call.index,r.call.addr,r.region,r.width,r.src.id.core,r.src.id.op,r.src.id.part,(Zb r.src.path),r.src.cap.kind,r.src.cap.base,r.src.cap.bits,r.src.cap.rights,r.src.cap.width,r.src.cap.level,r.src.cap.device,2,w,pa,dm)
 else
 if (!((cop .eql r.id.core r.id.core)&&((cop .eql r.id.op r.id.op)&&((cop .eql r.id.part r.id.part)&&true))))=true then
 some (E0,E0,0,0,16,false,es,E0,r.id.core,r.id.op,r.id.part,r.call.kind,r.call.slot,r.call.dest,r.call.core,r.call.mask,r.call.object,r.call.bits,r.call.level,r.call.offset,r.call.count,r.call.index,r.call.addr,r.region,r.width,r.src.id.core,r.src.id.op,r.src.id.part,(Zb r.src.path),r.src.cap.kind,r.src.cap.base,r.src.cap.bits,r.src.cap.rights,r.src.cap.width,r.src.cap.level,r.src.cap.device,2,w,pa,dm)
 else
 (g48 0 0 16 false es E0 r.id.core r.id.op r.id.part r.call.kind r.call.slot r.call.dest r.call.core r.call.mask r.call.object r.call.bits r.call.level r.call.offset r.call.count r.call.index r.call.addr r.region r.width r.src.id.core r.src.id.op r.src.id.part (Zb r.src.path) r.src.cap.kind r.src.cap.base r.src.cap.bits r.src.cap.rights r.src.cap.width r.src.cap.level r.src.cap.device 2 w pa dm f).bind fun r113=>
 if r113.1=true then
 (g49 r113.2.1 r113.2.2.1 r113.2.2.2.1 r113.2.2.2.2.1 r113.2.2.2.2.2.1 r113.2.2.2.2.2.2.1 r113.2.2.2.2.2.2.2.1 r113.2.2.2.2.2.2.2.2.1 r113.2.2.2.2.2.2.2.2.2.1 r113.2.2.2.2.2.2.2.2.2.2.1 r113.2.2.2.2.2.2.2.2.2.2.2.1 (d4 (d8 r113)).1 (d4 (d8 r113)).2.1 (d2 (d4 (d8 r113))).1 (d2 (d4 (d8 r113))).2.1 (d16 r113).1 (d16 r113).2.1 (d2 (d16 r113)).1 (d2 (d16 r113)).2.1 (d4 (d16 r113)).1 (d4 (d16 r113)).2.1 (d2 (d4 (d16 r113))).1 (d2 (d4 (d16 r113))).2.1 (d8 (d16 r113)).1 (d8 (d16 r113)).2.1 (d2 (d8 (d16 r113))).1 (d2 (d8 (d16 r113))).2.1 (d4 (d8 (d16 r113))).1 (d4 (d8 (d16 r113))).2.1 (d2 (d4 (d8 (d16 r113)))).1 (d2 (d4 (d8 (d16 r113)))).2.1 (d16 (d16 r113)).1 (d16 (d16 r113)).2.1 (d2 (d16 (d16 r113))).1 3 (d4 (d16 (d16 r113))).1 (d4 (d16 (d16 r113))).2.1 (d2 (d4 (d16 (d16 r113)))) 8).bind fun r152=>
 some (r152.1,E0,r152.2.1,r152.2.2.1,r152.2.2.2.1,r152.2.2.2.2.1,r152.2.2.2.2.2.1,r152.2.2.2.2.2.2.1,r152.2.2.2.2.2.2.2.1,r152.2.2.2.2.2.2.2.2.1,r152.2.2.2.2.2.2.2.2.2.1,r152.2.2.2.2.2.2.2.2.2.2.1,r152.2.2.2.2.2.2.2.2.2.2.2.1,(d4 (d8 r152)).1,(d4 (d8 r152)).2.1,(d2 (d4 (d8 r152))).1,(d2 (d4 (d8 r152))).2.1,(d16 r152).1,(d16 r152).2.1,(d2 (d16 r152)).1,(d2 (d16 r152)).2.1,(d4 (d16 r152)).1,(d4 (d16 r152)).2.1,(d2 (d4 (d16 r152))).1,(d2 (d4 (d16 r152))).2.1,(d8 (d16 r152)).1,(d8 (d16 r152)).2.1,(d2 (d8 (d16 r152))).1,(d2 (d8 (d16 r152))).2.1,(d4 (d8 (d16 r152))).1,(d4 (d8 (d16 r152))).2.1,(d2 (d4 (d8 (d16 r152)))).1,(d2 (d4 (d8 (d16 r152)))).2.1,(d16 (d16 r152)).1,(d16 (d16 r152)).2.1,(d2 (d16 (d16 r152))).1,(d2 (d16 (d16 r152))).2.1,(d4 (d16 (d16 r152))).1,(d4 (d16 (d16 r152))).2.1,(d2 (d4 (d16 (d16 r152)))))
 else
 if (cop .eql (d2 (d16 (d16 r113))).2.1 3)=true then
 if (cop .eql (d2 (d16 (d16 r113))).2.1 4)=true then
 if (cop .eql (d2 (d16 (d16 r113))).2.1 5)=true then
 some (E0,E0,r113.2.1,r113.2.2.1,r113.2.2.2.1,r113.2.2.2.2.1,r113.2.2.2.2.2.1,r113.2.2.2.2.2.2.1,r113.2.2.2.2.2.2.2.1,r113.2.2.2.2.2.2.2.2.1,r113.2.2.2.2.2.2.2.2.2.1,r113.2.2.2.2.2.2.2.2.2.2.1,r113.2.2.2.2.2.2.2.2.2.2.2.1,(d4 (d8 r113)).1,(d4 (d8 r113)).2.1,(d2 (d4 (d8 r113))).1,(d2 (d4 (d8 r113))).2.1,(d16 r113).1,(d16 r113).2.1,(d2 (d16 r113)).1,(d2 (d16 r113)).2.1,(d4 (d16 r113)).1,(d4 (d16 r113)).2.1,(d2 (d4 (d16 r113))).1,(d2 (d4 (d16 r113))).2.1,(d8 (d16 r113)).1,(d8 (d16 r113)).2.1,(d2 (d8 (d16 r113))).1,(d2 (d8 (d16 r113))).2.1,(d4 (d8 (d16 r113))).1,(d4 (d8 (d16 r113))).2.1,(d2 (d4 (d8 (d16 r113)))).1,(d2 (d4 (d8 (d16 r113)))).2.1,(d16 (d16 r113)).1,(d16 (d16 r113)).2.1,(d2 (d16 (d16 r113))).1,(d2 (d16 (d16 r113))).2.1,(d4 (d16 (d16 r113))).1,(d4 (d16 (d16 r113))).2.1,(d2 (d4 (d16 (d16 r113)))))
 else
 some (E0,E0,r113.2.1,r113.2.2.1,r113.2.2.2.1,r113.2.2.2.2.1,r113.2.2.2.2.2.1,r113.2.2.2.2.2.2.1,r113.2.2.2.2.2.2.2.1,r113.2.2.2.2.2.2.2.2.1,r113.2.2.2.2.2.2.2.2.2.1,r113.2.2.2.2.2.2.2.2.2.2.1,r113.2.2.2.2.2.2.2.2.2.2.2.1,(d4 (d8 r113)).1,(d4 (d8 r113)).2.1,(d2 (d4 (d8 r113))).1,(d2 (d4 (d8 r113))).2.1,(d16 r113).1,(d16 r113).2.1,(d2 (d16 r113)).1,(d2 (d16 r113)).2.1,(d4 (d16 r113)).1,(d4 (d16 r113)).2.1,(d2 (d4 (d16 r113))).1,(d2 (d4 (d16 r113))).2.1,(d8 (d16 r113)).1,(d8 (d16 r113)).2.1,(d2 (d8 (d16 r113))).1,(d2 (d8 (d16 r113))).2.1,(d4 (d8 (d16 r113))).1,(d4 (d8 (d16 r113))).2.1,(d2 (d4 (d8 (d16 r113)))).1,(d2 (d4 (d8 (d16 r113)))).2.1,(d16 (d16 r113)).1,(d16 (d16 r113)).2.1,(d2 (d16 (d16 r113))).1,(d2 (d16 (d16 r113))).2.1,(d4 (d16 (d16 r113))).1,(d4 (d16 (d16 r113))).2.1,(d2 (d4 (d16 (d16 r113)))))
 else
 if (cop .eql (d2 (d16 (d16 r113))).2.1 5)=true then
 some (E0,E0,r113.2.1,r113.2.2.1,r113.2.2.2.1,r113.2.2.2.2.1,r113.2.2.2.2.2.1,r113.2.2.2.2.2.2.1,r113.2.2.2.2.2.2.2.1,r113.2.2.2.2.2.2.2.2.1,r113.2.2.2.2.2.2.2.2.2.1,r113.2.2.2.2.2.2.2.2.2.2.1,r113.2.2.2.2.2.2.2.2.2.2.2.1,(d4 (d8 r113)).1,(d4 (d8 r113)).2.1,(d2 (d4 (d8 r113))).1,(d2 (d4 (d8 r113))).2.1,(d16 r113).1,(d16 r113).2.1,(d2 (d16 r113)).1,(d2 (d16 r113)).2.1,(d4 (d16 r113)).1,(d4 (d16 r113)).2.1,(d2 (d4 (d16 r113))).1,(d2 (d4 (d16 r113))).2.1,(d8 (d16 r113)).1,(d8 (d16 r113)).2.1,(d2 (d8 (d16 r113))).1,(d2 (d8 (d16 r113))).2.1,(d4 (d8 (d16 r113))).1,(d4 (d8 (d16 r113))).2.1,(d2 (d4 (d8 (d16 r113)))).1,(d2 (d4 (d8 (d16 r113)))).2.1,(d16 (d16 r113)).1,(d16 (d16 r113)).2.1,(d2 (d16 (d16 r113))).1,(d2 (d16 (d16 r113))).2.1,(d4 (d16 (d16 r113))).1,(d4 (d16 (d16 r113))).2.1,(d2 (d4 (d16 (d16 r113)))))
 else
 some (E0,E0,r113.2.1,r113.2.2.1,r113.2.2.2.1,r113.2.2.2.2.1,r113.2.2.2.2.2.1,r113.2.2.2.2.2.2.1,r113.2.2.2.2.2.2.2.1,r113.2.2.2.2.2.2.2.2.1,r113.2.2.2.2.2.2.2.2.2.1,r113.2.2.2.2.2.2.2.2.2.2.1,r113.2.2.2.2.2.2.2.2.2.2.2.1,(d4 (d8 r113)).1,(d4 (d8 r113)).2.1,(d2 (d4 (d8 r113))).1,(d2 (d4 (d8 r113))).2.1,(d16 r113).1,(d16 r113).2.1,(d2 (d16 r113)).1,(d2 (d16 r113)).2.1,(d4 (d16 r113)).1,(d4 (d16 r113)).2.1,(d2 (d4 (d16 r113))).1,(d2 (d4 (d16 r113))).2.1,(d8 (d16 r113)).1,(d8 (d16 r113)).2.1,(d2 (d8 (d16 r113))).1,(d2 (d8 (d16 r113))).2.1,(d4 (d8 (d16 r113))).1,(d4 (d8 (d16 r113))).2.1,(d2 (d4 (d8 (d16 r113)))).1,(d2 (d4 (d8 (d16 r113)))).2.1,(d16 (d16 r113)).1,(d16 (d16 r113)).2.1,(d2 (d16 (d16 r113))).1,(d2 (d16 (d16 r113))).2.1,(d4 (d16 (d16 r113))).1,(d4 (d16 (d16 r113))).2.1,(d2 (d4 (d16 (d16 r113)))))
 else
 if (cop .eql (d2 (d16 (d16 r113))).2.1 4)=true then
 if (cop .eql (d2 (d16 (d16 r113))).2.1 5)=true then
 some (E0,E0,r113.2.1,r113.2.2.1,r113.2.2.2.1,r113.2.2.2.2.1,r113.2.2.2.2.2.1,r113.2.2.2.2.2.2.1,r113.2.2.2.2.2.2.2.1,r113.2.2.2.2.2.2.2.2.1,r113.2.2.2.2.2.2.2.2.2.1,r113.2.2.2.2.2.2.2.2.2.2.1,r113.2.2.2.2.2.2.2.2.2.2.2.1,(d4 (d8 r113)).1,(d4 (d8 r113)).2.1,(d2 (d4 (d8 r113))).1,(d2 (d4 (d8 r113))).2.1,(d16 r113).1,(d16 r113).2.1,(d2 (d16 r113)).1,(d2 (d16 r113)).2.1,(d4 (d16 r113)).1,(d4 (d16 r113)).2.1,(d2 (d4 (d16 r113))).1,(d2 (d4 (d16 r113))).2.1,(d8 (d16 r113)).1,(d8 (d16 r113)).2.1,(d2 (d8 (d16 r113))).1,(d2 (d8 (d16 r113))).2.1,(d4 (d8 (d16 r113))).1,(d4 (d8 (d16 r113))).2.1,(d2 (d4 (d8 (d16 r113)))).1,(d2 (d4 (d8 (d16 r113)))).2.1,(d16 (d16 r113)).1,(d16 (d16 r113)).2.1,(d2 (d16 (d16 r113))).1,(d2 (d16 (d16 r113))).2.1,(d4 (d16 (d16 r113))).1,(d4 (d16 (d16 r113))).2.1,(d2 (d4 (d16 (d16 r113)))))
 else
 some (E0,E0,r113.2.1,r113.2.2.1,r113.2.2.2.1,r113.2.2.2.2.1,r113.2.2.2.2.2.1,r113.2.2.2.2.2.2.1,r113.2.2.2.2.2.2.2.1,r113.2.2.2.2.2.2.2.2.1,r113.2.2.2.2.2.2.2.2.2.1,r113.2.2.2.2.2.2.2.2.2.2.1,r113.2.2.2.2.2.2.2.2.2.2.2.1,(d4 (d8 r113)).1,(d4 (d8 r113)).2.1,(d2 (d4 (d8 r113))).1,(d2 (d4 (d8 r113))).2.1,(d16 r113).1,(d16 r113).2.1,(d2 (d16 r113)).1,(d2 (d16 r113)).2.1,(d4 (d16 r113)).1,(d4 (d16 r113)).2.1,(d2 (d4 (d16 r113))).1,(d2 (d4 (d16 r113))).2.1,(d8 (d16 r113)).1,(d8 (d16 r113)).2.1,(d2 (d8 (d16 r113))).1,(d2 (d8 (d16 r113))).2.1,(d4 (d8 (d16 r113))).1,(d4 (d8 (d16 r113))).2.1,(d2 (d4 (d8 (d16 r113)))).1,(d2 (d4 (d8 (d16 r113)))).2.1,(d16 (d16 r113)).1,(d16 (d16 r113)).2.1,(d2 (d16 (d16 r113))).1,(d2 (d16 (d16 r113))).2.1,(d4 (d16 (d16 r113))).1,(d4 (d16 (d16 r113))).2.1,(d2 (d4 (d16 (d16 r113)))))
 else
 if (cop .eql (d2 (d16 (d16 r113))).2.1 5)=true then
 some (E0,E0,r113.2.1,r113.2.2.1,r113.2.2.2.1,r113.2.2.2.2.1,r113.2.2.2.2.2.1,r113.2.2.2.2.2.2.1,r113.2.2.2.2.2.2.2.1,r113.2.2.2.2.2.2.2.2.1,r113.2.2.2.2.2.2.2.2.2.1,r113.2.2.2.2.2.2.2.2.2.2.1,r113.2.2.2.2.2.2.2.2.2.2.2.1,(d4 (d8 r113)).1,(d4 (d8 r113)).2.1,(d2 (d4 (d8 r113))).1,(d2 (d4 (d8 r113))).2.1,(d16 r113).1,(d16 r113).2.1,(d2 (d16 r113)).1,(d2 (d16 r113)).2.1,(d4 (d16 r113)).1,(d4 (d16 r113)).2.1,(d2 (d4 (d16 r113))).1,(d2 (d4 (d16 r113))).2.1,(d8 (d16 r113)).1,(d8 (d16 r113)).2.1,(d2 (d8 (d16 r113))).1,(d2 (d8 (d16 r113))).2.1,(d4 (d8 (d16 r113))).1,(d4 (d8 (d16 r113))).2.1,(d2 (d4 (d8 (d16 r113)))).1,(d2 (d4 (d8 (d16 r113)))).2.1,(d16 (d16 r113)).1,(d16 (d16 r113)).2.1,(d2 (d16 (d16 r113))).1,(d2 (d16 (d16 r113))).2.1,(d4 (d16 (d16 r113))).1,(d4 (d16 (d16 r113))).2.1,(d2 (d4 (d16 (d16 r113)))))
 else
 some (E0,E0,r113.2.1,r113.2.2.1,r113.2.2.2.1,r113.2.2.2.2.1,r113.2.2.2.2.2.1,r113.2.2.2.2.2.2.1,r113.2.2.2.2.2.2.2.1,r113.2.2.2.2.2.2.2.2.1,r113.2.2.2.2.2.2.2.2.2.1,r113.2.2.2.2.2.2.2.2.2.2.1,r113.2.2.2.2.2.2.2.2.2.2.2.1,(d4 (d8 r113)).1,(d4 (d8 r113)).2.1,(d2 (d4 (d8 r113))).1,(d2 (d4 (d8 r113))).2.1,(d16 r113).1,(d16 r113).2.1,(d2 (d16 r113)).1,(d2 (d16 r113)).2.1,(d4 (d16 r113)).1,(d4 (d16 r113)).2.1,(d2 (d4 (d16 r113))).1,(d2 (d4 (d16 r113))).2.1,(d8 (d16 r113)).1,(d8 (d16 r113)).2.1,(d2 (d8 (d16 r113))).1,(d2 (d8 (d16 r113))).2.1,(d4 (d8 (d16 r113))).1,(d4 (d8 (d16 r113))).2.1,(d2 (d4 (d8 (d16 r113)))).1,(d2 (d4 (d8 (d16 r113)))).2.1,(d16 (d16 r113)).1,(d16 (d16 r113)).2.1,(d2 (d16 (d16 r113))).1,(d2 (d16 (d16 r113))).2.1,(d4 (d16 (d16 r113))).1,(d4 (d16 (d16 r113))).2.1,(d2 (d4 (d16 (d16 r113)))))):=by kernel_rfl
theorem Zq5 (es w pa dm:LL) (r:Req) (f:Int):g18 0 0 16 false es E0 r.id.core r.id.op r.id.part r.call.kind r.call.slot r.call.dest r.call.core r.call.mask r.call.object r.call.bits r.call.level r.call.offset r.call.count r.call.index r.call.addr r.region r.width r.src.id.core r.src.id.op r.src.id.part (Zb r.src.path) r.src.cap.kind r.src.cap.base r.src.cap.bits r.src.cap.rights r.src.cap.width r.src.cap.level r.src.cap.device 3 w pa dm 9 0 f 0 0 0 0 r.id.core r.id.op r.id.part 0 false 0 0 0 0 0 0 0 0 0 0 0 0 0 0 0 0 0 0 0 0 E0 0 0 0 0 0 0 false E0 E0 E0 E0 0 0 E0 E0 E0 E0 E0 E0 E0 E0 0 0 E0 E0 E0 E0 E0 E0 E0 E0 false 0 E0 E0 E0 E0 E0 E0 E0 E0 =
 ((g45 9 0 f 0 0 0 0 r.id.core r.id.op r.id.part 0 false 0 0 0 0 0 0 0 0 0 0 0 0 0 0 0 0 0 0 0 0 E0 0 0 0 0 0 0 false E0 E0 E0 E0 0 0 E0 E0 E0 E0 E0 E0 E0 E0 0 0 E0 E0 E0 E0 E0 E0 E0 E0 false 0 E0 E0 E0 E0 E0 E0 E0 E0).bind fun r112=>
 if (!r112)=true then
 some (E0,E0,0,0,16,false,es,E0,r.id.core,r.id.op,r.id.part,r.call.kind,r.call.slot,r.call.dest,r.call.core,r.call.mask,r.call.object,r.call.bits,r.call.level,r.call.offset,r.call.count,r.call.index,r.call.addr,r.region,r.width,r.src.id.core,r.src.id.op,r.src.id.part,(Zb r.src.path),r.src.cap.kind,r.src.cap.base,r.src.cap.bits,r.src.cap.rights,r.src.cap.width,r.src.cap.level,r.src.cap.device,3,w,pa,dm)
 else
 if (!((cop .eql r.id.core r.id.core)&&((cop .eql r.id.op r.id.op)&&((cop .eql r.id.part r.id.part)&&true))))=true then
 some (E0,E0,0,0,16,false,es,E0,r.id.core,r.id.op,r.id.part,r.call.kind,r.call.slot,r.call.dest,r.call.core,r.call.mask,r.call.object,r.call.bits,r.call.level,r.call.offset,r.call.count,r.call.index,r.call.addr,r.region,r.width,r.src.id.core,r.src.id.op,r.src.id.part,(Zb r.src.path),r.src.cap.kind,r.src.cap.base,r.src.cap.bits,r.src.cap.rights,r.src.cap.width,r.src.cap.level,r.src.cap.device,3,w,pa,dm)
 else
 (g48 0 0 16 false es E0 r.id.core r.id.op r.id.part r.call.kind r.call.slot r.call.dest r.call.core r.call.mask r.call.object r.call.bits r.call.level r.call.offset r.call.count r.call.index r.call.addr r.region r.width r.src.id.core r.src.id.op r.src.id.part (Zb r.src.path) r.src.cap.kind r.src.cap.base r.src.cap.bits r.src.cap.rights r.src.cap.width r.src.cap.level r.src.cap.device 3 w pa dm f).bind fun r113=>
 if r113.1=true then
 Zh1 Jn r113.2.1 r113.2.2.1 r113.2.2.2.1 r113.2.2.2.2.1 r113.2.2.2.2.2.1 r113.2.2.2.2.2.2.1 r113.2.2.2.2.2.2.2.1 r113.2.2.2.2.2.2.2.2.1 r113.2.2.2.2.2.2.2.2.2.1 r113.2.2.2.2.2.2.2.2.2.2.1 r113.2.2.2.2.2.2.2.2.2.2.2.1 (d4 (d8 r113)).1 (d4 (d8 r113)).2.1 (d2 (d4 (d8 r113))).1 (d2 (d4 (d8 r113))).2.1 (d16 r113).1 (d16 r113).2.1 (d2 (d16 r113)).1 (d2 (d16 r113)).2.1 (d4 (d16 r113)).1 (d4 (d16 r113)).2.1 (d2 (d4 (d16 r113))).1 (d2 (d4 (d16 r113))).2.1 (d8 (d16 r113)).1 (d8 (d16 r113)).2.1 (d2 (d8 (d16 r113))).1 (d2 (d8 (d16 r113))).2.1 (d4 (d8 (d16 r113))).1 (d4 (d8 (d16 r113))).2.1 (d2 (d4 (d8 (d16 r113)))).1 (d2 (d4 (d8 (d16 r113)))).2.1 (d16 (d16 r113)).1 (d16 (d16 r113)).2.1 (d2 (d16 (d16 r113))).1 4 (d4 (d16 (d16 r113))).1 (d4 (d16 (d16 r113))).2.1 (d2 (d4 (d16 (d16 r113)))) (d2 (d4 (d16 (d16 r113)))) (List.length (d2 (d4 (d16 (d16 r113)))):Int) 0
 else
 if (cop .eql (d2 (d16 (d16 r113))).2.1 4)=true then
 if (cop .eql (d2 (d16 (d16 r113))).2.1 5)=true then
 some (E0,E0,r113.2.1,r113.2.2.1,r113.2.2.2.1,r113.2.2.2.2.1,r113.2.2.2.2.2.1,r113.2.2.2.2.2.2.1,r113.2.2.2.2.2.2.2.1,r113.2.2.2.2.2.2.2.2.1,r113.2.2.2.2.2.2.2.2.2.1,r113.2.2.2.2.2.2.2.2.2.2.1,r113.2.2.2.2.2.2.2.2.2.2.2.1,(d4 (d8 r113)).1,(d4 (d8 r113)).2.1,(d2 (d4 (d8 r113))).1,(d2 (d4 (d8 r113))).2.1,(d16 r113).1,(d16 r113).2.1,(d2 (d16 r113)).1,(d2 (d16 r113)).2.1,(d4 (d16 r113)).1,(d4 (d16 r113)).2.1,(d2 (d4 (d16 r113))).1,(d2 (d4 (d16 r113))).2.1,(d8 (d16 r113)).1,(d8 (d16 r113)).2.1,(d2 (d8 (d16 r113))).1,(d2 (d8 (d16 r113))).2.1,(d4 (d8 (d16 r113))).1,(d4 (d8 (d16 r113))).2.1,(d2 (d4 (d8 (d16 r113)))).1,(d2 (d4 (d8 (d16 r113)))).2.1,(d16 (d16 r113)).1,(d16 (d16 r113)).2.1,(d2 (d16 (d16 r113))).1,(d2 (d16 (d16 r113))).2.1,(d4 (d16 (d16 r113))).1,(d4 (d16 (d16 r113))).2.1,(d2 (d4 (d16 (d16 r113)))))
 else
 some (E0,E0,r113.2.1,r113.2.2.1,r113.2.2.2.1,r113.2.2.2.2.1,r113.2.2.2.2.2.1,r113.2.2.2.2.2.2.1,r113.2.2.2.2.2.2.2.1,r113.2.2.2.2.2.2.2.2.1,r113.2.2.2.2.2.2.2.2.2.1,r113.2.2.2.2.2.2.2.2.2.2.1,r113.2.2.2.2.2.2.2.2.2.2.2.1,(d4 (d8 r113)).1,(d4 (d8 r113)).2.1,(d2 (d4 (d8 r113))).1,(d2 (d4 (d8 r113))).2.1,(d16 r113).1,(d16 r113).2.1,(d2 (d16 r113)).1,(d2 (d16 r113)).2.1,(d4 (d16 r113)).1,(d4 (d16 r113)).2.1,(d2 (d4 (d16 r113))).1,(d2 (d4 (d16 r113))).2.1,(d8 (d16 r113)).1,(d8 (d16 r113)).2.1,(d2 (d8 (d16 r113))).1,(d2 (d8 (d16 r113))).2.1,(d4 (d8 (d16 r113))).1,(d4 (d8 (d16 r113))).2.1,(d2 (d4 (d8 (d16 r113)))).1,(d2 (d4 (d8 (d16 r113)))).2.1,(d16 (d16 r113)).1,(d16 (d16 r113)).2.1,(d2 (d16 (d16 r113))).1,(d2 (d16 (d16 r113))).2.1,(d4 (d16 (d16 r113))).1,(d4 (d16 (d16 r113))).2.1,(d2 (d4 (d16 (d16 r113)))))
 else
 if (cop .eql (d2 (d16 (d16 r113))).2.1 5)=true then
 some (E0,E0,r113.2.1,r113.2.2.1,r113.2.2.2.1,r113.2.2.2.2.1,r113.2.2.2.2.2.1,r113.2.2.2.2.2.2.1,r113.2.2.2.2.2.2.2.1,r113.2.2.2.2.2.2.2.2.1,r113.2.2.2.2.2.2.2.2.2.1,r113.2.2.2.2.2.2.2.2.2.2.1,r113.2.2.2.2.2.2.2.2.2.2.2.1,(d4 (d8 r113)).1,(d4 (d8 r113)).2.1,(d2 (d4 (d8 r113))).1,(d2 (d4 (d8 r113))).2.1,(d16 r113).1,(d16 r113).2.1,(d2 (d16 r113)).1,(d2 (d16 r113)).2.1,(d4 (d16 r113)).1,(d4 (d16 r113)).2.1,(d2 (d4 (d16 r113))).1,(d2 (d4 (d16 r113))).2.1,(d8 (d16 r113)).1,(d8 (d16 r113)).2.1,(d2 (d8 (d16 r113))).1,(d2 (d8 (d16 r113))).2.1,(d4 (d8 (d16 r113))).1,(d4 (d8 (d16 r113))).2.1,(d2 (d4 (d8 (d16 r113)))).1,(d2 (d4 (d8 (d16 r113)))).2.1,(d16 (d16 r113)).1,(d16 (d16 r113)).2.1,(d2 (d16 (d16 r113))).1,(d2 (d16 (d16 r113))).2.1,(d4 (d16 (d16 r113))).1,(d4 (d16 (d16 r113))).2.1,(d2 (d4 (d16 (d16 r113)))))
 else
 some (E0,E0,r113.2.1,r113.2.2.1,r113.2.2.2.1,r113.2.2.2.2.1,r113.2.2.2.2.2.1,r113.2.2.2.2.2.2.1,r113.2.2.2.2.2.2.2.1,r113.2.2.2.2.2.2.2.2.1,r113.2.2.2.2.2.2.2.2.2.1,r113.2.2.2.2.2.2.2.2.2.2.1,r113.2.2.2.2.2.2.2.2.2.2.2.1,(d4 (d8 r113)).1,(d4 (d8 r113)).2.1,(d2 (d4 (d8 r113))).1,(d2 (d4 (d8 r113))).2.1,(d16 r113).1,(d16 r113).2.1,(d2 (d16 r113)).1,(d2 (d16 r113)).2.1,(d4 (d16 r113)).1,(d4 (d16 r113)).2.1,(d2 (d4 (d16 r113))).1,(d2 (d4 (d16 r113))).2.1,(d8 (d16 r113)).1,(d8 (d16 r113)).2.1,(d2 (d8 (d16 r113))).1,(d2 (d8 (d16 r113))).2.1,(d4 (d8 (d16 r113))).1,(d4 (d8 (d16 r113))).2.1,(d2 (d4 (d8 (d16 r113)))).1,(d2 (d4 (d8 (d16 r113)))).2.1,(d16 (d16 r113)).1,(d16 (d16 r113)).2.1,(d2 (d16 (d16 r113))).1,(d2 (d16 (d16 r113))).2.1,(d4 (d16 (d16 r113))).1,(d4 (d16 (d16 r113))).2.1,(d2 (d4 (d16 (d16 r113)))))):=by kernel_rfl
theorem Zpn (es w pa dm:LL) (r:Req) (f:Int):g18 0 0 16 false es E0 r.id.core r.id.op r.id.part r.call.kind r.call.slot r.call.dest r.call.core r.call.mask r.call.object r.call.bits r.call.level r.call.offset r.call.count r.call.index r.call.addr r.region r.width r.src.id.core r.src.id.op r.src.id.part (Zb r.src.path) r.src.cap.kind r.src.cap.base r.src.cap.bits r.src.cap.rights r.src.cap.width r.src.cap.level r.src.cap.device 4 w pa dm 11 0 f 0 0 0 0 r.id.core r.id.op r.id.part 0 false 0 0 0 0 0 0 0 0 0 0 0 0 0 0 0 0 0 0 0 0 E0 0 0 0 0 0 0 false E0 E0 E0 E0 0 0 E0 E0 E0 E0 E0 E0 E0 E0 0 0 E0 E0 E0 E0 E0 E0 E0 E0 false 0 E0 E0 E0 E0 E0 E0 E0 E0 =
 ((g45 11 0 f 0 0 0 0 r.id.core r.id.op r.id.part 0 false 0 0 0 0 0 0 0 0 0 0 0 0 0 0 0 0 0 0 0 0 E0 0 0 0 0 0 0 false E0 E0 E0 E0 0 0 E0 E0 E0 E0 E0 E0 E0 E0 0 0 E0 E0 E0 E0 E0 E0 E0 E0 false 0 E0 E0 E0 E0 E0 E0 E0 E0).bind fun r112=>
 if (!r112)=true then
 some (E0,E0,0,0,16,false,es,E0,r.id.core,r.id.op,r.id.part,r.call.kind,r.call.slot,r.call.dest,r.call.core,r.call.mask,r.call.object,r.call.bits,r.call.level,r.call.offset,r.call.count,r.call.index,r.call.addr,r.region,r.width,r.src.id.core,r.src.id.op,r.src.id.part,(Zb r.src.path),r.src.cap.kind,r.src.cap.base,r.src.cap.bits,r.src.cap.rights,r.src.cap.width,r.src.cap.level,r.src.cap.device,4,w,pa,dm)
 else
 if (!((cop .eql r.id.core r.id.core)&&((cop .eql r.id.op r.id.op)&&((cop .eql r.id.part r.id.part)&&true))))=true then
 some (E0,E0,0,0,16,false,es,E0,r.id.core,r.id.op,r.id.part,r.call.kind,r.call.slot,r.call.dest,r.call.core,r.call.mask,r.call.object,r.call.bits,r.call.level,r.call.offset,r.call.count,r.call.index,r.call.addr,r.region,r.width,r.src.id.core,r.src.id.op,r.src.id.part,(Zb r.src.path),r.src.cap.kind,r.src.cap.base,r.src.cap.bits,r.src.cap.rights,r.src.cap.width,r.src.cap.level,r.src.cap.device,4,w,pa,dm)
 else
 (g48 0 0 16 false es E0 r.id.core r.id.op r.id.part r.call.kind r.call.slot r.call.dest r.call.core r.call.mask r.call.object r.call.bits r.call.level r.call.offset r.call.count r.call.index r.call.addr r.region r.width r.src.id.core r.src.id.op r.src.id.part (Zb r.src.path) r.src.cap.kind r.src.cap.base r.src.cap.bits r.src.cap.rights r.src.cap.width r.src.cap.level r.src.cap.device 4 w pa dm f).bind fun r113=>
 if r113.1=true then
 (g47 r113.2.1 r113.2.2.1 r113.2.2.2.1 r113.2.2.2.2.1 r113.2.2.2.2.2.1 r113.2.2.2.2.2.2.1 r113.2.2.2.2.2.2.2.1 r113.2.2.2.2.2.2.2.2.1 r113.2.2.2.2.2.2.2.2.2.1 r113.2.2.2.2.2.2.2.2.2.2.1 r113.2.2.2.2.2.2.2.2.2.2.2.1 (d4 (d8 r113)).1 (d4 (d8 r113)).2.1 (d2 (d4 (d8 r113))).1 (d2 (d4 (d8 r113))).2.1 (d16 r113).1 (d16 r113).2.1 (d2 (d16 r113)).1 (d2 (d16 r113)).2.1 (d4 (d16 r113)).1 (d4 (d16 r113)).2.1 (d2 (d4 (d16 r113))).1 (d2 (d4 (d16 r113))).2.1 (d8 (d16 r113)).1 (d8 (d16 r113)).2.1 (d2 (d8 (d16 r113))).1 (d2 (d8 (d16 r113))).2.1 (d4 (d8 (d16 r113))).1 (d4 (d8 (d16 r113))).2.1 (d2 (d4 (d8 (d16 r113)))).1 (d2 (d4 (d8 (d16 r113)))).2.1 (d16 (d16 r113)).1 (d16 (d16 r113)).2.1 (d2 (d16 (d16 r113))).1 (d2 (d16 (d16 r113))).2.1 (d4 (d16 (d16 r113))).1 (d4 (d16 (d16 r113))).2.1 (d2 (d4 (d16 (d16 r113)))) 0 true E0).bind fun r152=>
 some (r152.1,E0,r152.2.1,r152.2.2.1,r152.2.2.2.1,r152.2.2.2.2.1,r152.2.2.2.2.2.1,r152.2.2.2.2.2.2.1,r152.2.2.2.2.2.2.2.1,r152.2.2.2.2.2.2.2.2.1,r152.2.2.2.2.2.2.2.2.2.1,r152.2.2.2.2.2.2.2.2.2.2.1,r152.2.2.2.2.2.2.2.2.2.2.2.1,(d4 (d8 r152)).1,(d4 (d8 r152)).2.1,(d2 (d4 (d8 r152))).1,(d2 (d4 (d8 r152))).2.1,(d16 r152).1,(d16 r152).2.1,(d2 (d16 r152)).1,(d2 (d16 r152)).2.1,(d4 (d16 r152)).1,(d4 (d16 r152)).2.1,(d2 (d4 (d16 r152))).1,(d2 (d4 (d16 r152))).2.1,(d8 (d16 r152)).1,(d8 (d16 r152)).2.1,(d2 (d8 (d16 r152))).1,(d2 (d8 (d16 r152))).2.1,(d4 (d8 (d16 r152))).1,(d4 (d8 (d16 r152))).2.1,(d2 (d4 (d8 (d16 r152)))).1,(d2 (d4 (d8 (d16 r152)))).2.1,(d16 (d16 r152)).1,(d16 (d16 r152)).2.1,(d2 (d16 (d16 r152))).1,(d2 (d16 (d16 r152))).2.1,(d4 (d16 (d16 r152))).1,(d4 (d16 (d16 r152))).2.1,(d2 (d4 (d16 (d16 r152)))))
 else
 if (cop .eql (d2 (d16 (d16 r113))).2.1 5)=true then
 some (E0,E0,r113.2.1,r113.2.2.1,r113.2.2.2.1,r113.2.2.2.2.1,r113.2.2.2.2.2.1,r113.2.2.2.2.2.2.1,r113.2.2.2.2.2.2.2.1,r113.2.2.2.2.2.2.2.2.1,r113.2.2.2.2.2.2.2.2.2.1,r113.2.2.2.2.2.2.2.2.2.2.1,r113.2.2.2.2.2.2.2.2.2.2.2.1,(d4 (d8 r113)).1,(d4 (d8 r113)).2.1,(d2 (d4 (d8 r113))).1,(d2 (d4 (d8 r113))).2.1,(d16 r113).1,(d16 r113).2.1,(d2 (d16 r113)).1,(d2 (d16 r113)).2.1,(d4 (d16 r113)).1,(d4 (d16 r113)).2.1,(d2 (d4 (d16 r113))).1,(d2 (d4 (d16 r113))).2.1,(d8 (d16 r113)).1,(d8 (d16 r113)).2.1,(d2 (d8 (d16 r113))).1,(d2 (d8 (d16 r113))).2.1,(d4 (d8 (d16 r113))).1,(d4 (d8 (d16 r113))).2.1,(d2 (d4 (d8 (d16 r113)))).1,(d2 (d4 (d8 (d16 r113)))).2.1,(d16 (d16 r113)).1,(d16 (d16 r113)).2.1,(d2 (d16 (d16 r113))).1,(d2 (d16 (d16 r113))).2.1,(d4 (d16 (d16 r113))).1,(d4 (d16 (d16 r113))).2.1,(d2 (d4 (d16 (d16 r113)))))
 else
 some (E0,E0,r113.2.1,r113.2.2.1,r113.2.2.2.1,r113.2.2.2.2.1,r113.2.2.2.2.2.1,r113.2.2.2.2.2.2.1,r113.2.2.2.2.2.2.2.1,r113.2.2.2.2.2.2.2.2.1,r113.2.2.2.2.2.2.2.2.2.1,r113.2.2.2.2.2.2.2.2.2.2.1,r113.2.2.2.2.2.2.2.2.2.2.2.1,(d4 (d8 r113)).1,(d4 (d8 r113)).2.1,(d2 (d4 (d8 r113))).1,(d2 (d4 (d8 r113))).2.1,(d16 r113).1,(d16 r113).2.1,(d2 (d16 r113)).1,(d2 (d16 r113)).2.1,(d4 (d16 r113)).1,(d4 (d16 r113)).2.1,(d2 (d4 (d16 r113))).1,(d2 (d4 (d16 r113))).2.1,(d8 (d16 r113)).1,(d8 (d16 r113)).2.1,(d2 (d8 (d16 r113))).1,(d2 (d8 (d16 r113))).2.1,(d4 (d8 (d16 r113))).1,(d4 (d8 (d16 r113))).2.1,(d2 (d4 (d8 (d16 r113)))).1,(d2 (d4 (d8 (d16 r113)))).2.1,(d16 (d16 r113)).1,(d16 (d16 r113)).2.1,(d2 (d16 (d16 r113))).1,(d2 (d16 (d16 r113))).2.1,(d4 (d16 (d16 r113))).1,(d4 (d16 (d16 r113))).2.1,(d2 (d4 (d16 (d16 r113)))))):=by kernel_rfl
theorem ZpQ (f:Int) (i:Id):g45 7 0 f 0 0 0 0 i.core i.op i.part 0 false 0 0 0 0 0 0 0 0 0 0 0 0 0 0 0 0 0 0 0 0 E0 0 0 0 0 0 0 false E0 E0 E0 E0 0 0 E0 E0 E0 E0 E0 E0 E0 E0 0 0 E0 E0 E0 E0 E0 E0 E0 E0 false 0 E0 E0 E0 E0 E0 E0 E0 E0=((g98 f).bind fun r=>if (!r)=true then some false else (((g90 i.core i.op i.part).bind fun r=>some r).bind fun r=>if (!r)=true then some false else some true)):=by kernel_rfl
theorem ZqE (f:Int) (i:Id):g45 9 0 f 0 0 0 0 i.core i.op i.part 0 false 0 0 0 0 0 0 0 0 0 0 0 0 0 0 0 0 0 0 0 0 E0 0 0 0 0 0 0 false E0 E0 E0 E0 0 0 E0 E0 E0 E0 E0 E0 E0 E0 0 0 E0 E0 E0 E0 E0 E0 E0 E0 false 0 E0 E0 E0 E0 E0 E0 E0 E0=((g98 f).bind fun r=>if (!r)=true then some false else (((g90 i.core i.op i.part).bind fun r=>some r).bind fun r=>if (!r)=true then some false else some true)):=by kernel_rfl
theorem ZmW (f:Int) (i:Id):g45 11 0 f 0 0 0 0 i.core i.op i.part 0 false 0 0 0 0 0 0 0 0 0 0 0 0 0 0 0 0 0 0 0 0 E0 0 0 0 0 0 0 false E0 E0 E0 E0 0 0 E0 E0 E0 E0 E0 E0 E0 E0 0 0 E0 E0 E0 E0 E0 E0 E0 E0 false 0 E0 E0 E0 E0 E0 E0 E0 E0=((g98 f).bind fun r=>if (!r)=true then some false else (((g90 i.core i.op i.part).bind fun r=>some r).bind fun r=>if (!r)=true then some false else some true)):=by kernel_rfl
end Go.Proofs.YtlgmnddelljbmaaGreat
end

section
namespace Go.Proofs.YtlgmnddelljbmaaGreat
open Go Go.AM
set_option linter.unusedSimpArgs false
set_option linter.unusedVariables false
set_option maxRecDepth 100000
set_option synthInstance.maxSize 2000
def left (f:List Zq) (ds:List Id):List Zq:=f.filter fun e=>!ds.contains e.node.id
theorem ZiF {f:List Zq} (ha:f.Pairwise fun a b=>lte a b=true):∀ a b (h1:a < f.length) (h2:b < f.length),f[a].node.id=f[b].node.id→a=b:=by
 intro a b h1 h2 he
 rcases Nat.lt_trichotomy a b with h | h | h
 ·have:=List.pairwise_iff_getElem.1 ha a b h1 h2 h
  rw [Vy,he] at this;omega
 ·exact h
 ·have:=List.pairwise_iff_getElem.1 ha b a h2 h1 h
  rw [Vy,he] at this;omega
theorem Zap {l:List Zq} (ha:l.Pairwise fun a b=>lte a b=true) (k:Nat) (hk:k < l.length):l.take k++l.drop (k+1)=l.filter fun e=>!decide (e.node.id=l[k].node.id):=by
 have hs:l=l.take k++l[k]::l.drop (k+1):=by rw [← List.drop_eq_getElem_cons hk,List.take_append_drop]
 have h1:(l.take k).filter (fun e=>!decide (e.node.id=l[k].node.id))=l.take k:=List.filter_eq_self.2 fun e he=>by
  obtain ⟨j,hj,rfl⟩:=List.mem_iff_getElem.1 he
  rw [List.length_take] at hj
  rw [List.getElem_take]
  have:=ZiF ha j k (by omega) hk
  simp only [Bool.not_eq_true',decide_eq_false_iff_not]
  intro h;have:=this h;omega
 have h2:(l.drop (k+1)).filter (fun e=>!decide (e.node.id=l[k].node.id))=l.drop (k+1):=List.filter_eq_self.2 fun e he=>by
  obtain ⟨j,hj,rfl⟩:=List.mem_iff_getElem.1 he
  rw [List.length_drop] at hj
  rw [List.getElem_drop]
  have:=ZiF ha (k+1+j) k (by omega) hk
  simp only [Bool.not_eq_true',decide_eq_false_iff_not]
  intro h;have:=this h;omega
 have h3:l.filter (fun e=>!decide (e.node.id=l[k].node.id))=(l.take k++l[k]::l.drop (k+1)).filter (fun e=>!decide (e.node.id=l[k].node.id)):=by rw [← hs]
 rw [h3,List.filter_append,h1,List.filter_cons,if_neg (by simp),h2]
theorem Zgu {f:List Zq} (ha:f.Pairwise fun a b=>lte a b=true) (ds:List Id):(left f ds).Pairwise fun a b=>lte a b=true:=ha.sublist List.filter_sublist
theorem Zdg {f:List Zq} (hF:Zab f) (ds:List Id):Zab (left f ds):=⟨Nat.le_trans (List.length_filter_le _ _) hF.len,fun e he=>hF.path e (List.mem_filter.1 he).1⟩
theorem Zjl {f:List Zq} (ha:f.Pairwise fun a b=>lte a b=true) (ds:List Id) (d:Id) (hd:∃ e∈f,e.node.id=d) (hn:d∉ds):∃ k,∃ hk:k < (left f ds).length,d=(left f ds)[k].node.id∧(left f ds).take k++(left f ds).drop (k+1)=left f (ds++[d]):=by
 obtain ⟨e,he,rfl⟩:=hd
 have hm:e∈left f ds:=List.mem_filter.2 ⟨he,by simp [hn]⟩
 obtain ⟨k,hk,hke⟩:=List.mem_iff_getElem.1 hm
 refine ⟨k,hk,by rw [hke],?_⟩
 rw [Zap (Zgu ha ds) k hk,hke]
 unfold left
 rw [List.filter_filter]
 congr 1
 funext x
 rw [Bool.eq_iff_iff]
 simp only [Bool.and_eq_true,Bool.not_eq_true',decide_eq_false_iff_not,List.contains_eq_mem,List.mem_append,List.mem_singleton]
 constructor
 ·rintro ⟨h1,h2⟩ (h | h)
  ·exact h2 h
  ·exact h1 h
 ·intro h
  exact ⟨fun h'=>h (.inr h'),fun h'=>h (.inl h')⟩
theorem ZpY {f:List Zq} (ha:f.Pairwise fun a b=>lte a b=true) (i:Id) (e:Zq) (he:e∈f):(Z8 (bl f i)).contains e.node.id=e.node.path.contains i:=by
 rw [Bool.eq_iff_iff,List.contains_iff_mem]
 constructor
 ·intro h
  obtain ⟨x,hx,hxe⟩:=List.mem_map.1 h
  obtain ⟨hxf,hxp⟩:=List.mem_filter.1 hx
  obtain ⟨a,h1,rfl⟩:=List.mem_iff_getElem.1 hxf
  obtain ⟨b,h2,rfl⟩:=List.mem_iff_getElem.1 he
  have:=ZiF ha a b h1 h2 hxe
  subst this
  exact hxp
 ·intro h
  exact List.mem_map.2 ⟨e,List.mem_filter.2 ⟨he,h⟩,rfl⟩
theorem Zgx {f:List Zq} (ha:f.Pairwise fun a b=>lte a b=true) (i:Id):left f (Z8 (bl f i))=f.filter fun e=>!e.node.path.contains i:=List.filter_congr fun e he=>by rw [ZpY ha i e he]
theorem ZlO {f:List Zq} (ha:f.Pairwise fun a b=>lte a b=true) (i:Id):(Z8 (bl f i)).Nodup:=by
 refine List.Pairwise.map _ (fun a b h=>?_) (ha.sublist List.filter_sublist)
 rw [Vy] at h
 intro he
 rw [he] at h
 omega
theorem Zla (f:List Zq):left f []=f:=List.filter_eq_self.2 fun e _=>rfl
theorem Ztj (f:List Zq) (hF:Zab f) (ha:f.Pairwise fun a b=>lte a b=true) (hl:f.length < 100) (r:Req) (p:Int) (w:LL) (P:List Int) (hP:P.length < 900) (ds:List Id) (hd:∀ d∈ds,∃ e∈f,e.node.id=d) (hn:ds.Nodup) (hdl:ds.length < 900) :
  Zh1 Jn 0 0 16 false (f.map Ze) E0 r.id.core r.id.op r.id.part r.call.kind r.call.slot r.call.dest r.call.core r.call.mask r.call.object r.call.bits r.call.level r.call.offset r.call.count r.call.index r.call.addr r.region r.width r.src.id.core r.src.id.op r.src.id.part (Zb r.src.path) r.src.cap.kind r.src.cap.base r.src.cap.bits r.src.cap.rights r.src.cap.width r.src.cap.level r.src.cap.device p w (Za P) (Zb ds) (Zb ds) (List.length (Zb ds):Int) 0=some (P.map (fun z=>mM 10 z 0 r.id 0 false E0),[[I r.id.core,I r.id.op,I r.id.part,B true]],oT ((left f ds).map Ze) E0 r p (Za P) (Za P) (Zb ds)):=by
 have key:Ret (fun x=>x=((P.map (fun z=>mM 10 z 0 r.id 0 false E0),[[I r.id.core,I r.id.op,I r.id.part,B true]],oT ((left f ds).map Ze) E0 r p (Za P) (Za P) (Zb ds)):Qt10)) (Zh1 Jn 0 0 16 false (f.map Ze) E0 r.id.core r.id.op r.id.part r.call.kind r.call.slot r.call.dest r.call.core r.call.mask r.call.object r.call.bits r.call.level r.call.offset r.call.count r.call.index r.call.addr r.region r.width r.src.id.core r.src.id.op r.src.id.part (Zb r.src.path) r.src.cap.kind r.src.cap.base r.src.cap.bits r.src.cap.rights r.src.cap.width r.src.cap.level r.src.cap.device p w (Za P) (Zb ds) (Zb ds) (List.length (Zb ds):Int) 0):=by
  rw [Z5]
  refine ZR (F:=fun k (s:LL) i=>Zh1 k 0 0 16 false s E0 r.id.core r.id.op r.id.part r.call.kind r.call.slot r.call.dest r.call.core r.call.mask r.call.object r.call.bits r.call.level r.call.offset r.call.count r.call.index r.call.addr r.region r.width r.src.id.core r.src.id.op r.src.id.part (Zb r.src.path) r.src.cap.kind r.src.cap.base r.src.cap.bits r.src.cap.rights r.src.cap.width r.src.cap.level r.src.cap.device p w (Za P) (Zb ds) (Zb ds) (ds.length:Int) i) ds.length (fun j s=>s=(left f (ds.take j)).map Ze) (by omega) (fun k j s hj hJ next=>?_) _ (by rw [List.take_zero,Zla])
  subst hJ
  refine Zh (ZlK ..) (Zc (fun h=>?_) fun h=>?_)
  ·simp only [CQ] at h
   have hj':j < ds.length:=by omega
   have hnd:ds[j]∉ds.take j:=fun hm=>by
    obtain ⟨a,h1,h2⟩:=List.mem_iff_getElem.1 hm
    rw [List.length_take] at h1
    rw [List.getElem_take] at h2
    exact List.pairwise_iff_getElem.1 hn a j (by omega) hj' (by omega) h2
   obtain ⟨q,hq,hqd,hqe⟩:=Zjl ha (ds.take j) ds[j] (hd _ (List.getElem_mem hj')) hnd
   have hlen:(left f (ds.take j)).length < 900:=by have:=List.length_filter_le (fun e=>!(ds.take j).contains e.node.id) f;unfold left;omega
   have e46:=s46 (left f (ds.take j)) (Zdg hF _) hlen (Zgu ha _) q hq ds[j] hqd
   rw [hqe] at e46
   refine Zh (Zhw hj' _) (Zd e46 ?_)
   rw [YD hj (by omega)]
   exact next hj' _ (by rw [List.take_succ_eq_append_getElem hj'])
  ·simp only [CQ] at h
   rw [List.take_of_length_le (by omega)]
   refine Zd (s49 ((left f ds).map Ze) E0 r p w (Zb ds) P hP 10) (Zp (Int.le_refl _) (Zp (Int.le_refl _) (Zp (Int.le_refl _) (Zp (Int.le_refl _) (Zp (Int.le_refl _) (Zp (Int.le_refl _) (Zf rfl)))))))
 obtain ⟨x,e,rfl⟩:=key
 exact e
end Go.Proofs.YtlgmnddelljbmaaGreat
end

section
namespace Go.Proofs.YtlgmnddelljbmaaGreat
open Go Go.AM
set_option linter.unusedSimpArgs false
set_option linter.unusedVariables false
set_option maxRecDepth 100000
set_option synthInstance.maxSize 2000
theorem Zvq (z:Int) (W:List Int):Zt5 (Za (z::W)) ((0:Nat):Int) (iop .add .i64 ((0:Nat):Int) 1)=some (Za W):=by
 rw [Zob]
 unfold Zm5
 rw [Zz (by decide),Zz (by decide),Zz (show (iop .add .i64 ((0:Nat):Int) 1:Int)≤_ by rw [Jp,show (iop .add .i64 ((0:Nat):Int) 1:Int)=1 from rfl];simp;omega)]
 rfl
theorem Zjm {z:Int} {W:List Int} : ZaE (z::W) z=0:=Zgy _ (z::W) (i:=0) (by simp) (by simp) fun j hj h=>absurd h (Nat.not_lt_zero j)
theorem Zm8 (x0:Int) (x1:Int):ZsM x0 x1 =
 ((Znc x0).bind fun (r2:Bool)=>
 if r2=true then
 (Znc x1).bind fun (r3:Bool)=>
 if (!r3)=true then
 some (true)
 else
 some ((cop .lss x0 x1))
 else
 some ((cop .lss x0 x1))):=by kernel_rfl
theorem Zn3 (x0:Int):Zsr x0 =
 (some ((cop .neq x0 x0))):=by kernel_rfl
noncomputable def Ze0 (k:Nat) (x0:LL) (x1:Int) (x2:Int) (x3:Int) (x4:Int):Option (Int×Bool):=Zqk.lp [0] 0 r0 k [.l x0,.i x1,.i x2,.i x3,.i x4]
theorem ZeC (k:Nat) (x0:LL) (x1:Int) (x2:Int) (x3:Int) (x4:Int):Ze0 (k+1) x0 x1 x2 x3 x4 =
 (if (cop .lss x3 x4)=true then
 ZA ((0:Int)≤1)<|
 Zt x0 (IntKind.wrap .i64 (iop .shr .u64 (IntKind.wrap .u64 (iop .add .i64 x3 x4)) 1)) [.int .i64] fun (r5:Int)=>
 (ZsM r5 x1).bind fun (r6:Bool)=>
 if r6=true then
 Ze0 k x0 x1 x2 (iop .add .i64 (IntKind.wrap .i64 (iop .shr .u64 (IntKind.wrap .u64 (iop .add .i64 x3 x4)) 1)) 1) x4
 else
 Ze0 k x0 x1 x2 x3 (IntKind.wrap .i64 (iop .shr .u64 (IntKind.wrap .u64 (iop .add .i64 x3 x4)) 1))
 else
 if (cop .lss x3 x2)=true then
 Zt x0 x3 [.int .i64] fun (r5:Int)=>
 if (cop .eql r5 x1)=true then
 some (x3,true)
 else
 Zt x0 x3 [.int .i64] fun (r6:Int)=>
 (Zsr r6).bind fun (r7:Bool)=>
 if r7=true then
 (Zsr x1).bind fun (r8:Bool)=>
 some (x3,r8)
 else
 some (x3,false)
 else
 some (x3,false)):=by kernel_rfl
theorem ZmU (x0:LL) (x1:Int):ZsE x0 x1 =
 (Ze0 Jn x0 x1 (List.length x0:Int) 0 (List.length x0:Int)):=by kernel_rfl
theorem Zp4 (x0:Int) (x1:Int) (x2:Int) (x3:Bool) (x4:LL) (x5:LL) (x6:Int) (x7:Int) (x8:Int) (x9:Int) (x10:Int) (x11:Int) (x12:Int) (x13:Int) (x14:Int) (x15:Int) (x16:Int) (x17:Int) (x18:Int) (x19:Int) (x20:Int) (x21:Int) (x22:Int) (x23:Int) (x24:Int) (x25:Int) (x26:LL) (x27:Int) (x28:Int) (x29:Int) (x30:Int) (x31:Int) (x32:Int) (x33:Bool) (x34:Int) (x35:LL) (x36:LL) (x37:LL) (x38:Int):g48 x0 x1 x2 x3 x4 x5 x6 x7 x8 x9 x10 x11 x12 x13 x14 x15 x16 x17 x18 x19 x20 x21 x22 x23 x24 x25 x26 x27 x28 x29 x30 x31 x32 x33 x34 x35 x36 x37 x38 =
 ((ZsE x35 x38).bind fun (r39:Int×Bool)=>
 if (!r39.2)=true then
 some (false,x0,x1,x2,x3,x4,x5,x6,x7,x8,x9,x10,x11,x12,x13,x14,x15,x16,x17,x18,x19,x20,x21,x22,x23,x24,x25,x26,x27,x28,x29,x30,x31,x32,x33,x34,x35,x36,x37)
 else
 (Zt5 x35 r39.1 (iop .add .i64 r39.1 1)).bind fun (r41:LL)=>
 some ((cop .eql (List.length r41:Int) 0),x0,x1,x2,x3,x4,x5,x6,x7,x8,x9,x10,x11,x12,x13,x14,x15,x16,x17,x18,x19,x20,x21,x22,x23,x24,x25,x26,x27,x28,x29,x30,x31,x32,x33,x34,r41,x36,x37)):=by kernel_rfl
theorem ZoT {s:Int} (h0:0≤s) (h1:s < 4000):IntKind.wrap .u64 s=s:=by
 simp only [IntKind.wrap]
 have hb:IntKind.u64.bits=64:=rfl
 have hs:IntKind.u64.signed=false:=rfl
 have h64:(2:Int)^64=18446744073709551616:=by decide
 simp only [hb,hs,Bool.false_and,h64]
 rw [if_neg (by simp)]
 omega
theorem Zo5 {s:Int} (h0:0≤s) (h1:s < 4000):IntKind.wrap .i64 s=s:=by
 have h2:iop .add .i64 s 0=s:=by rw [Kg (by omega) (by omega)];omega
 have h3:iop .add .i64 s 0=IntKind.wrap .i64 (s+0):=rfl
 rw [h3,Int.add_zero] at h2
 exact h2
theorem ZsL {i j:Nat} (h:i+j < 2000):IntKind.wrap .i64 (iop .shr .u64 (IntKind.wrap .u64 (iop .add .i64 (i:Int) (j:Int))) 1)=(((i+j) / 2:Nat):Int):=by
 rw [Kg (by omega) (by omega),ZoT (by omega) (by omega)]
 have e:iop .shr .u64 ((i:Int)+(j:Int)) 1=(((i+j) / 2:Nat):Int):=by
  show ((i:Int)+(j:Int)).fdiv (2^(min (1:Int).toNat 64))=_
  have h2:(2:Int)^(min (1:Int).toNat 64)=2:=rfl
  rw [h2,Int.fdiv_eq_ediv_of_nonneg _ (by omega)]
  omega
 rw [e,Zo5 (by omega) (by omega)]
theorem Zu1 (a b:Int):ZsM a b=some (decide (a < b)):=by
 have e:∀ x:Int,Znc x=some false:=fun x=>by rw [ZjH];simp [CQ]
 rw [Zm8,e,Option.bind_some,if_neg (by simp)]
 rfl
theorem Zu4 (l:List Int) (hl:l.length < 950) (hA:l.Pairwise (· < ·)) (x:Int):ZsE (Za l) x=some ((ZaE l x:Int),decide (l[ZaE l x]? = some x)):=by
 have key:∀ (d i j fuel:Nat),j-i≤d→d < fuel→i≤j→j≤l.length→(∀ a (ha:a < l.length),a < i→l[a] < x)→(∀ a (ha:a < l.length),j≤a→x≤l[a])→Ret (fun y=>y=((ZaE l x:Int),decide (l[ZaE l x]? = some x))) (Ze0 fuel (Za l) x (l.length:Int) (i:Int) (j:Int)):=by
  intro d
  induction d with
  | zero =>
   intro i j fuel hd hf hij hjl h1 h2
   obtain ⟨q,rfl⟩:∃ q,fuel=q+1:=⟨fuel-1,by omega⟩
   have hje:j=i:=by omega
   subst hje
   have hp:ZaE l x=j:=by
    by_cases hjl':j < l.length
    ·exact Zgy _ l hjl' (by have:=h2 j hjl' (Nat.le_refl _);simp;omega) fun a ha haj=>by have:=h1 a ha haj;simp;omega
    ·have:j=l.length:=by omega
     rw [this]
     exact ZaC _ l fun a ha=>by have:=h1 a ha (by omega);simp;omega
   refine Zh (ZeC ..) (Zc (fun h=>?_) fun _=>Zc (fun h=>?_) fun h=>Zf ?_)
   ·exfalso;simp only [CQ] at h;omega
   ·simp only [CQ] at h
    have hjl':j < l.length:=by omega
    refine Zh (JA hjl' _) (Zc (fun h3=>Zf ?_) fun h3=>Zh (JA hjl' _) (Zd (Zn3 ..) (Zc (fun h4=>?_) fun _=>Zf ?_)))
    ·simp only [CQ] at h3
     rw [hp,List.getElem?_eq_getElem hjl',h3];simp
    ·exfalso;simp [CQ] at h4
    ·simp only [CQ] at h3
     rw [hp,List.getElem?_eq_getElem hjl'];simp [h3]
   ·simp only [CQ] at h
    rw [hp,List.getElem?_eq_none (by omega)];simp
  | succ d ih =>
   intro i j fuel hd hf hij hjl h1 h2
   by_cases hlt:i < j
   ·obtain ⟨q,rfl⟩:∃ q,fuel=q+1:=⟨fuel-1,by omega⟩
    have hm:(i+j) / 2 < l.length:=by omega
    refine Zh (ZeC ..) (Zc (fun _=>Zp (by decide) ?_) fun h=>?_)
    ·rw [ZsL (by omega)]
     refine Zh (JA hm _) (Zd (Zu1 ..) (Zc (fun h3=>?_) fun h3=>?_))
     ·have h3':l[(i+j) / 2] < x:=of_decide_eq_true h3
      rw [YD (n:=960) (by omega) (by omega)]
      refine ih _ j q (by omega) (by omega) (by omega) hjl (fun a ha hai=>?_) h2
      by_cases he:a=(i+j) / 2
      ·subst he;exact h3'
      ·have:=List.pairwise_iff_getElem.1 hA a ((i+j) / 2) ha hm (by omega)
       omega
     ·have h3':¬ l[(i+j) / 2] < x:=fun h=>h3 (decide_eq_true h)
      refine ih i _ q (by omega) (by omega) (by omega) (by omega) h1 (fun a ha hai=>?_)
      by_cases he:a=(i+j) / 2
      ·subst he;omega
      ·have:=List.pairwise_iff_getElem.1 hA ((i+j) / 2) a hm ha (by omega)
       omega
    ·exfalso;simp only [CQ] at h;omega
   ·exact ih i j fuel (by omega) (by omega) hij hjl h1 h2
 rw [ZmU,Jp]
 obtain ⟨y,e,rfl⟩:=key l.length 0 l.length Jn (by omega) (by have:=Zff (n:=l.length) (by omega);omega) (Nat.zero_le _) (Nat.le_refl _) (fun a _ h=>absurd h (Nat.not_lt_zero a)) (fun a ha h=>by omega)
 exact e
theorem s48 (es qs:LL) (r:Req) (p:Int) (pa dm:LL) (z:Int) (W:List Int) (hA:(z::W).Pairwise (· < ·)) (hl:W.length < 900):g48 0 0 16 false es qs r.id.core r.id.op r.id.part r.call.kind r.call.slot r.call.dest r.call.core r.call.mask r.call.object r.call.bits r.call.level r.call.offset r.call.count r.call.index r.call.addr r.region r.width r.src.id.core r.src.id.op r.src.id.part (Zb r.src.path) r.src.cap.kind r.src.cap.base r.src.cap.bits r.src.cap.rights r.src.cap.width r.src.cap.level r.src.cap.device p (Za (z::W)) pa dm z=some (decide (W = []),oT es qs r p (Za W) pa dm):=by
 have hp:ZaE (z::W) z=0:=Zjm
 have hb:cop .eql (List.length (Za W):Int) 0=decide (W = []):=by
  rw [Jp]
  cases W with
  | nil => rfl
  | cons a W => simp [CQ]; omega
 have key:Ret (fun x=>x=((decide (W = []),oT es qs r p (Za W) pa dm):Qt11)) (g48 0 0 16 false es qs r.id.core r.id.op r.id.part r.call.kind r.call.slot r.call.dest r.call.core r.call.mask r.call.object r.call.bits r.call.level r.call.offset r.call.count r.call.index r.call.addr r.region r.width r.src.id.core r.src.id.op r.src.id.part (Zb r.src.path) r.src.cap.kind r.src.cap.base r.src.cap.bits r.src.cap.rights r.src.cap.width r.src.cap.level r.src.cap.device p (Za (z::W)) pa dm z):=by
  rw [Zp4]
  refine Zd (Zu4 (z::W) (by rw [List.length_cons];omega) hA z) (Zc (fun h=>?_) fun _=>Zd (a:=Za W) (by rw [hp];exact Zvq z W) (Zf ?_))
  ·rw [hp] at h;simp at h
  ·rw [hb];rfl
 obtain ⟨x,e,rfl⟩:=key
 exact e
theorem s98 {f:Int} (hf:0≤f∧f < 32):g98 f=some true:=by
 have key:Ret (fun r=>r=true) (g98 f):=by
  have e:g98 f=(if (cop .geq f 0)=true then some ((cop .lss f 32)) else some (false)):=by kernel_rfl
  rw [e]
  refine Zc (fun _=>Zf ?_) fun h=>?_
  ·simp only [CQ];omega
  ·exfalso;simp only [CQ] at h;omega
 obtain ⟨r,e,rfl⟩:=key
 exact e
theorem s90 {i:Id} (hi:V2 i=true) (hp:i.part=0):g90 i.core i.op i.part=some true:=by
 rw [Zmv,ZrW,hi,hp]
 rfl
theorem ZtR {f:Int} (hf:0≤f∧f < 32) {i:Id} (hi:V2 i=true) (hp:i.part=0):g45 7 0 f 0 0 0 0 i.core i.op i.part 0 false 0 0 0 0 0 0 0 0 0 0 0 0 0 0 0 0 0 0 0 0 E0 0 0 0 0 0 0 false E0 E0 E0 E0 0 0 E0 E0 E0 E0 E0 E0 E0 E0 0 0 E0 E0 E0 E0 E0 E0 E0 E0 false 0 E0 E0 E0 E0 E0 E0 E0 E0=some true:=by
 rw [ZpQ,s98 hf,s90 hi hp]
 rfl
theorem Zts {f:Int} (hf:0≤f∧f < 32) {i:Id} (hi:V2 i=true) (hp:i.part=0):g45 9 0 f 0 0 0 0 i.core i.op i.part 0 false 0 0 0 0 0 0 0 0 0 0 0 0 0 0 0 0 0 0 0 0 E0 0 0 0 0 0 0 false E0 E0 E0 E0 0 0 E0 E0 E0 E0 E0 E0 E0 E0 0 0 E0 E0 E0 E0 E0 E0 E0 E0 false 0 E0 E0 E0 E0 E0 E0 E0 E0=some true:=by
 rw [ZqE,s98 hf,s90 hi hp]
 rfl
theorem ZqV {f:Int} (hf:0≤f∧f < 32) {i:Id} (hi:V2 i=true) (hp:i.part=0):g45 11 0 f 0 0 0 0 i.core i.op i.part 0 false 0 0 0 0 0 0 0 0 0 0 0 0 0 0 0 0 0 0 0 0 E0 0 0 0 0 0 0 false E0 E0 E0 E0 0 0 E0 E0 E0 E0 E0 E0 E0 E0 0 0 E0 E0 E0 E0 E0 E0 E0 E0 false 0 E0 E0 E0 E0 E0 E0 E0 E0=some true:=by
 rw [ZmW,s98 hf,s90 hi hp]
 rfl
theorem Zqc (es:LL) {z:Int} (hz:0≤z∧z < 32) (W P:List Int) (hP:P.length < 900) (hW:(z::W).Pairwise (· < ·)) (hWl:W.length < 900) (r:Req) (hi:V2 r.id=true) (hpt:r.id.part=0) (dm:LL) :
  Ret (fun x=>(W = []→x=(P.map (fun z=>mM 8 z 0 r.id 0 false E0),E0,oT es E0 r 3 (Za P) (Za P) dm))∧(W≠[]→x=(E0,E0,oT es E0 r 2 (Za W) (Za P) dm))) (g18 0 0 16 false es E0 r.id.core r.id.op r.id.part r.call.kind r.call.slot r.call.dest r.call.core r.call.mask r.call.object r.call.bits r.call.level r.call.offset r.call.count r.call.index r.call.addr r.region r.width r.src.id.core r.src.id.op r.src.id.part (Zb r.src.path) r.src.cap.kind r.src.cap.base r.src.cap.bits r.src.cap.rights r.src.cap.width r.src.cap.level r.src.cap.device 2 (Za (z::W)) (Za P) dm 7 0 z 0 0 0 0 r.id.core r.id.op r.id.part 0 false 0 0 0 0 0 0 0 0 0 0 0 0 0 0 0 0 0 0 0 0 E0 0 0 0 0 0 0 false E0 E0 E0 E0 0 0 E0 E0 E0 E0 E0 E0 E0 E0 0 0 E0 E0 E0 E0 E0 E0 E0 E0 false 0 E0 E0 E0 E0 E0 E0 E0 E0):=by
 rw [Zpa]
 refine Zd (ZtR hz hi hpt) (Zc (fun h=>by cases h) fun _=>Zc (fun h=>?_) fun _=>Zd (s48 es E0 r 2 (Za P) dm z W hW hWl) (Zc (fun h=>?_) fun h=>?_))
 ·exfalso;simp [CQ] at h
 ·have hW0:W = []:=of_decide_eq_true h
  subst hW0
  exact Zd (s49 es E0 r 3 (Za []) dm P hP 8) (Zf ⟨fun _=>rfl,fun h=>absurd rfl h⟩)
 ·have hW0:W≠[]:=fun he=>h (decide_eq_true he)
  have fin:Ret (fun x=>(W = []→x=(P.map (fun z=>mM 8 z 0 r.id 0 false E0),E0,oT es E0 r 3 (Za P) (Za P) dm))∧(W≠[]→x=(E0,E0,oT es E0 r 2 (Za W) (Za P) dm))) (some ((E0,E0,oT es E0 r 2 (Za W) (Za P) dm):Qt10)):=Zf ⟨fun he=>absurd he hW0,fun _=>rfl⟩
  repeat' (refine Zc (fun _=>?_) fun _=>?_)
  all_goals exact fin
theorem ZpU (f:List Zq) (hF:Zab f) (ha:f.Pairwise fun a b=>lte a b=true) (hl:f.length < 100) {z:Int} (hz:0≤z∧z < 32) (W P:List Int) (hP:P.length < 900) (hW:(z::W).Pairwise (· < ·)) (hWl:W.length < 900) (r:Req) (hi:V2 r.id=true) (hpt:r.id.part=0) (ds:List Id) (hd:∀ d∈ds,∃ e∈f,e.node.id=d) (hn:ds.Nodup) (hdl:ds.length < 900) :
  Ret (fun x=>(W = []→x=(P.map (fun z=>mM 10 z 0 r.id 0 false E0),[[I r.id.core,I r.id.op,I r.id.part,B true]],oT ((left f ds).map Ze) E0 r 4 (Za P) (Za P) (Zb ds)))∧(W≠[]→x=(E0,E0,oT (f.map Ze) E0 r 3 (Za W) (Za P) (Zb ds)))) (g18 0 0 16 false (f.map Ze) E0 r.id.core r.id.op r.id.part r.call.kind r.call.slot r.call.dest r.call.core r.call.mask r.call.object r.call.bits r.call.level r.call.offset r.call.count r.call.index r.call.addr r.region r.width r.src.id.core r.src.id.op r.src.id.part (Zb r.src.path) r.src.cap.kind r.src.cap.base r.src.cap.bits r.src.cap.rights r.src.cap.width r.src.cap.level r.src.cap.device 3 (Za (z::W)) (Za P) (Zb ds) 9 0 z 0 0 0 0 r.id.core r.id.op r.id.part 0 false 0 0 0 0 0 0 0 0 0 0 0 0 0 0 0 0 0 0 0 0 E0 0 0 0 0 0 0 false E0 E0 E0 E0 0 0 E0 E0 E0 E0 E0 E0 E0 E0 0 0 E0 E0 E0 E0 E0 E0 E0 E0 false 0 E0 E0 E0 E0 E0 E0 E0 E0):=by
 rw [Zq5]
 refine Zd (Zts hz hi hpt) (Zc (fun h=>by cases h) fun _=>Zc (fun h=>?_) fun _=>Zd (s48 (f.map Ze) E0 r 3 (Za P) (Zb ds) z W hW hWl) (Zc (fun h=>?_) fun h=>?_))
 ·exfalso;simp [CQ] at h
 ·have hW0:W = []:=of_decide_eq_true h
  subst hW0
  exact Zh (Ztj f hF ha hl r 4 (Za []) P hP ds hd hn hdl) (Zf ⟨fun _=>rfl,fun h=>absurd rfl h⟩)
 ·have hW0:W≠[]:=fun he=>h (decide_eq_true he)
  have fin:Ret (fun x=>(W = []→x=(P.map (fun z=>mM 10 z 0 r.id 0 false E0),[[I r.id.core,I r.id.op,I r.id.part,B true]],oT ((left f ds).map Ze) E0 r 4 (Za P) (Za P) (Zb ds)))∧(W≠[]→x=(E0,E0,oT (f.map Ze) E0 r 3 (Za W) (Za P) (Zb ds)))) (some ((E0,E0,oT (f.map Ze) E0 r 3 (Za W) (Za P) (Zb ds)):Qt10)):=Zf ⟨fun he=>absurd he hW0,fun _=>rfl⟩
  repeat' (refine Zc (fun _=>?_) fun _=>?_)
  all_goals exact fin
theorem Zq1 (es:LL) {z:Int} (hz:0≤z∧z < 32) (W P:List Int) (hP:P.length < 900) (hW:(z::W).Pairwise (· < ·)) (hWl:W.length < 900) (r:Req) (hi:V2 r.id=true) (hpt:r.id.part=0) (dm:LL) :
  Ret (fun x=>(W = []→x=([mM 2 r.id.core 0 r.id 0 true E0],E0,oT es E0 r 5 E0 (Za P) dm))∧(W≠[]→x=(E0,E0,oT es E0 r 4 (Za W) (Za P) dm))) (g18 0 0 16 false es E0 r.id.core r.id.op r.id.part r.call.kind r.call.slot r.call.dest r.call.core r.call.mask r.call.object r.call.bits r.call.level r.call.offset r.call.count r.call.index r.call.addr r.region r.width r.src.id.core r.src.id.op r.src.id.part (Zb r.src.path) r.src.cap.kind r.src.cap.base r.src.cap.bits r.src.cap.rights r.src.cap.width r.src.cap.level r.src.cap.device 4 (Za (z::W)) (Za P) dm 11 0 z 0 0 0 0 r.id.core r.id.op r.id.part 0 false 0 0 0 0 0 0 0 0 0 0 0 0 0 0 0 0 0 0 0 0 E0 0 0 0 0 0 0 false E0 E0 E0 E0 0 0 E0 E0 E0 E0 E0 E0 E0 E0 0 0 E0 E0 E0 E0 E0 E0 E0 E0 false 0 E0 E0 E0 E0 E0 E0 E0 E0):=by
 rw [Zpn]
 refine Zd (ZqV hz hi hpt) (Zc (fun h=>by cases h) fun _=>Zc (fun h=>?_) fun _=>Zd (s48 es E0 r 4 (Za P) dm z W hW hWl) (Zc (fun h=>?_) fun h=>?_))
 ·exfalso;simp [CQ] at h
 ·have hW0:W = []:=of_decide_eq_true h
  subst hW0
  exact Zd (s47 es E0 r 4 (Za []) (Za P) dm 0 true E0) (Zf ⟨fun _=>rfl,fun h=>absurd rfl h⟩)
 ·have hW0:W≠[]:=fun he=>h (decide_eq_true he)
  have fin:Ret (fun x=>(W = []→x=([mM 2 r.id.core 0 r.id 0 true E0],E0,oT es E0 r 5 E0 (Za P) dm))∧(W≠[]→x=(E0,E0,oT es E0 r 4 (Za W) (Za P) dm))) (some ((E0,E0,oT es E0 r 4 (Za W) (Za P) dm):Qt10)):=Zf ⟨fun he=>absurd he hW0,fun _=>rfl⟩
  repeat' (refine Zc (fun _=>?_) fun _=>?_)
  all_goals exact fin
theorem s21 (f:List Zq) (hF:Zab f) (hl:f.length < 900) (qs:LL) (r:Req) (p:Int) (w pa dm:LL):g21 0 0 16 false (f.map Ze) qs r.id.core r.id.op r.id.part r.call.kind r.call.slot r.call.dest r.call.core r.call.mask r.call.object r.call.bits r.call.level r.call.offset r.call.count r.call.index r.call.addr r.region r.width r.src.id.core r.src.id.op r.src.id.part (Zb r.src.path) r.src.cap.kind r.src.cap.base r.src.cap.bits r.src.cap.rights r.src.cap.width r.src.cap.level r.src.cap.device p w pa dm=some (f.map Ze,oT (f.map Ze) qs r p w pa dm):=by
 rw [ZpZ,s51 f hF (by omega)]
 rfl
theorem s20 (f:List Zq) (hF:Zab f) (hl:f.length < 900):g20 (f.map Ze) (f.map Ze)=some true:=by
 have key:Ret (fun x=>x=true) (g20 (f.map Ze) (f.map Ze)):=by
  rw [Zp3,List.length_map]
  refine Zc (fun h=>?_) fun _=>?_
  ·exfalso;simp only [CQ] at h;omega
  ·refine ZR (F:=fun k (_:Unit) i=>ZlY k (f.map Ze) (f.map Ze) i) f.length (fun _ _=>True) (by omega) (fun k i _ hi _ next=>?_) () trivial
   refine Zh (Zl6 ..) (Zc (fun h=>?_) fun _=>Zf rfl)
   rw [List.length_map] at h
   simp only [CQ] at h
   have hi':i < f.length:=by omega
   have hp:=hF.path f[i] (List.getElem_mem hi')
   refine Zh (ZU hi' _) (Zh (ZU hi' _) (Zc (fun h=>?_) fun _=>Zh (ZU hi' _) (Zh (ZU hi' _) (Zc (fun h=>?_) fun _=>Zh (ZU hi' _) (Zh (ZU hi' _) (Zd (s50 f[i].node.id.core f[i].node.id.op f[i].node.id.part f[i].node.path (by omega) ..) (Zc (fun h=>by cases h) fun _=>?_)))))))
   ·exfalso;simp only [CQ] at h;exact h rfl
   ·exfalso;simp only [CQ] at h;exact h rfl
   ·rw [YD hi (by omega)]
    exact next hi' () trivial
 obtain ⟨r,e,rfl⟩:=key
 exact e
end Go.Proofs.YtlgmnddelljbmaaGreat
end
