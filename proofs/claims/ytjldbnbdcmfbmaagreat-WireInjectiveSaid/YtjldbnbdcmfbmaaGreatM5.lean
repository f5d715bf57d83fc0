/- EndW8, W811a, W811b, W812a, W812d, W818a, W818b, W818c, W818d, W818e, W818f, W818g, W818h, W818i, W818j, W824a, W824c, W824d, W8L23a, W8L23b, W8L23c, W8L23d, W8J11a, W8J11b, W8L23f, W8L23g, W8L23h, W8L23i: texts of the proof, put together. -/
import Derived.Test.YtjldbnbdcmfbmaaGreatRows
import Derived.Test.YtjldbnbdcmfbmaaGreatChecked
import Derived.Test.YtjldbnbdcmfbmaaGreatM4
import Derived.JoinedOf
import Derived.JoinedAt
import Derived.RowKit3
import Derived.KernelRfl
import Derived.Test.YtjldbnbdcmfbmaaGreatF8f

section
namespace Go.Proofs.YtjldbnbdcmfbmaaGreat
open Go Go.AM
set_option maxRecDepth 100000
theorem behind : ∃ ws, behindMainWord (wordsSigns Tryz.prog.initOrder.toList) = "cut".toList :: ws := by
 have h:Tryz.prog.initOrder.toList=_:=String.toList_ofList (l:=_)
 rw [h]
 exact Zhy (by kernel_rfl) (by kernel_rfl) (by kernel_rfl) (by kernel_rfl) (by kernel_rfl) (by kernel_rfl)
theorem ZtV:Tryz.prog.mayEnter=true:=behind.elim fun _ h=>Go.AM.enters_of h (by kernel_rfl) (by kernel_rfl) (by kernel_rfl)
theorem Zy8:Tryz.prog.liftsFinal=false:=behind.elim fun _ h=>Go.AM.final_of h
theorem ZtD:Tryz.prog.make=some .cut:=behind.elim fun _ h=>Go.AM.make_of h
theorem ZB9:laidOutB Tryz.prog=true:=by kernel_rfl
theorem ZlJ:ownKnob Tryz.prog.godebug=none:=by kernel_rfl
def u8c (z:Int):List AV:=[AV.val (.int .u8 z)]
def Zd (l:List Int):List (List AV):=l.map u8c
def J5 (l:List Int):Prop:=∀ z∈l,0≤z∧z≤255
def Wf (z:Int):List AV:=[I z]
def Za (l:List Int):List (List AV):=l.map Wf
structure Id where
 core:Int
 op:Int
 part:Int
 deriving DecidableEq
def idc (i:Id):List AV:=[I i.core,I i.op,I i.part]
def Zc (l:List Id):List (List AV):=l.map idc
theorem Zce {α β:Type} {f:α→β} {p:α→Prop} : ∀ (xs:List β),(∀ x∈xs,∃ a,x=f a∧p a)→∃ l:List α,xs=l.map f∧∀ a∈l,p a
 | [], _ => ⟨[], rfl, by simp⟩
 | x :: xs, h => by
  obtain ⟨a,h1,h2⟩:=h x (by simp)
  obtain ⟨l,h3,h4⟩:=Zce xs fun y hy=>h y (by simp [hy])
  refine ⟨a::l,by rw [h1,h3];rfl,fun b hb=>?_⟩
  rcases List.mem_cons.1 hb with rfl | hb
  ·exact h2
  ·exact h4 b hb
def Zrx:List TypeId:=[3,5,22,23,50,56]
theorem ZAf (t:TypeId) (h:Zrx.contains t=true):ZbK Tryz.prog 12 t=true∧t < Tryz.prog.types.size∧Tryz.prog.readableRec t=true:=by
 have h2:Zrx.all (fun t=>ZbK Tryz.prog 12 t&&decide (t < Tryz.prog.types.size)&&Tryz.prog.readableRec t)=true:=by kernel_rfl
 rw [List.all_eq_true] at h2
 have:=h2 t (by simpa using h)
 simpa [and_assoc] using this
end Go.Proofs.YtjldbnbdcmfbmaaGreat
end

section
namespace Go.Proofs.YtjldbnbdcmfbmaaGreat
open Go Go.AM
set_option linter.unusedSimpArgs false
set_option linter.unusedVariables false
set_option maxRecDepth 100000
def Vo (k b:Int):Bool:=decide ((k=1∧6≤b∧b≤40)∨(k=2∧12≤b∧b≤40)∨(k=3∧b=12)∨(k=4∧b=6)∨(k=5∧b=10)∨(k=6∧b=16))
theorem ZBZ (k b:Int):Zye k b=some (Vo k b):=by
 rw [ZqR]
 repeat' split
 all_goals (refine congrArg some ?_;rw [Zs];simp only [Vo,CQ] at *; omega)
def ZiK (k:Int):Int:=if k=3 then 12 else if k=4 then 6 else if k=5 then 10 else if k=6 then 16 else 0
theorem ZBa (k:Int):Zzc k=some (ZiK k):=by
 rw [ZsP]
 simp only [CQ,ZiK]
 repeat' split
 all_goals first | rfl | omega
theorem ZAp (k b:Int):Zwm k b=some (Vo k b):=by
 rw [Zrj]
 simp only [ZBa,Option.bind_some]
 repeat' split
 all_goals (refine congrArg some ?_;rw [Zs];simp only [Vo,CQ] at *; first | omega | (rcases (by omega:k=3∨k=4∨k=5∨k=6) with rfl | rfl | rfl | rfl<;>simp [ZiK]))
def Zbu (w l:Int):Bool:=decide ((w=32∧0≤l∧l≤1)∨(w=39∧0≤l∧l≤2))
theorem ZBK (w l:Int):ZxK w l=some (Zbu w l):=by
 rw [ZsZ]
 repeat' split
 all_goals (refine congrArg some ?_;rw [Zs];simp only [Zbu,CQ] at *; omega)
theorem ZAx (w l:Int):ZwS w l=some (Zbu w l):=by
 rw [ZrQ]
 repeat' split
 all_goals (refine congrArg some ?_;rw [Zs];simp only [Zbu,CQ] at *; omega)
def KX (a b:Int):Bool:=decide (6≤b∧b≤40∧0≤a∧a % 2^b.toNat=0∧a+2^b.toNat≤1099511627776)
theorem Zji {b:Int} (h:b≤40):(2:Int)^b.toNat≤1099511627776:=by
 have:=Zm7 (m:=b.toNat) (n:=40) (by omega)
 have e:(2:Int)^40=1099511627776:=by decide
 omega
theorem ZiD {a:Int} {n:Nat} (h:0≤a):iop .rem .i64 a (2^n)=a % 2^n:=Int.tmod_eq_emod_of_nonneg h
theorem ZvB {b:Int} (h:b≤40):iop .sub .i64 1099511627776 (2^b.toNat)=1099511627776-2^b.toNat:=by
 have:=Zji h
 have:=J2 b.toNat
 exact Zbf (by omega) (by omega)
theorem ZB0 (a b:Int):Zyl a b=some (KX a b):=by
 have hp:=J2 b.toNat
 rw [Zrm]
 by_cases h1:6≤b∧b≤40∧0≤a
 ·obtain ⟨h1,h2,h3⟩:=h1
  have hs:iop .shl .i64 1 b=2^b.toNat:=Zta (by omega)
  have hr:ZA ((0:Int)≤b)=fun (x:Option Bool)=>x:=funext fun x=>Zl (by omega) x
  have hn:ZA (((2:Int)^b.toNat)≠0)=fun (x:Option Bool)=>x:=funext fun x=>Zl (by omega) x
  simp only [hs,hr,hn,ZiD h3,ZvB h2]
  repeat' split
  all_goals (refine congrArg some ?_;rw [Zs];simp only [KX,CQ] at *; omega)
 ·have hf:KX a b=false:=by simp only [KX,decide_eq_false_iff_not];omega
  rw [hf]
  repeat' split
  all_goals first | rfl | (exfalso;simp only [CQ] at *; omega)
theorem Zxc (a b:Int):Zp6 a b=some (KX a b):=by
 have hp:=J2 b.toNat
 rw [Zqv]
 by_cases h1:6≤b∧b≤40∧0≤a
 ·obtain ⟨h1,h2,h3⟩:=h1
  have hw:IntKind.wrap .u64 b=b:=Ys (by omega) (by omega)
  have hs:iop .shl .i64 1 b=2^b.toNat:=Zta (by omega)
  have hr:ZA ((0:Int)≤b)=fun (x:Option Bool)=>x:=funext fun x=>Zl (by omega) x
  have hn:ZA (((2:Int)^b.toNat)≠0)=fun (x:Option Bool)=>x:=funext fun x=>Zl (by omega) x
  have h40:=Zji h2
  simp only [hw,hs,hr,hn,ZiD h3]
  repeat' split
  all_goals (refine congrArg some ?_;rw [Zs];simp only [KX,CQ] at *; first | omega | (rw [J8 (by omega) (by omega)] at *; omega))
 ·have hf:KX a b=false:=by simp only [KX,decide_eq_false_iff_not];omega
  rw [hf]
  repeat' split
  all_goals first | rfl | (exfalso;simp only [CQ] at *; omega)
def Zby (a b:Int):Int:=if KX a b=true then a+2^b.toNat else 0
theorem ZbQ {a b:Int} (h:KX a b=true):6≤b∧b≤40∧0≤a∧a % 2^b.toNat=0∧a+2^b.toNat≤1099511627776:=by simpa [KX] using h
theorem ZrL {a b:Int} (h:KX a b=true):iop .add .i64 a (iop .shl .i64 1 b)=Zby a b:=by
 obtain ⟨h1,h2,h3,h4,h5⟩:=ZbQ h
 have:=J2 b.toNat
 rw [Zta (by omega),J8 (by omega) (by omega),Zby,if_pos h]
def Zua (a b c d:Int):Bool:=KX a b&&KX c d&&decide (a < Zby c d)&&decide (c < Zby a b)
def inB (a b c d:Int):Bool:=KX a b&&KX c d&&decide (a≤c)&&decide (Zby c d≤Zby a b)
structure Cap where
 kind:Int
 base:Int
 bits:Int
 rights:Int
 width:Int
 level:Int
 device:Bool
theorem ZBM (k b s r w l:Int) (d:Bool):Zz5 k b s r w l d=some (b,s):=Zqs ..
theorem Zqb (k b s r w l:Int) (d:Bool):ZlT k b s r w l d=some (b,s):=Zsa ..
def Yr (c:Cap):Bool:=Vo c.kind c.bits&&KX c.base c.bits&&decide (0≤c.rights∧c.rights≤7)&&(if c.kind=3 then Zbu c.width c.level else decide (c.width=0∧c.level=0))&&(!c.device||decide (c.kind=1)||decide (c.kind=2))
theorem ZAM (k b s r w l:Int) (d:Bool):Zxe k b s r w l d=some (Yr ⟨k,b,s,r,w,l,d⟩):=by
 rw [Zsq]
 simp only [ZBZ,ZBM,ZB0,ZBK,Option.bind_some]
 repeat' split
 all_goals (refine congrArg some ?_;rw [Zs];simp only [Yr,CQ] at *; grind)
theorem Zzh (k b s r w l:Int) (d:Bool):Zvw k b s r w l d=some (Yr ⟨k,b,s,r,w,l,d⟩):=by
 rw [Zr5]
 simp only [ZAp,Zqb,Zxc,ZAx,Option.bind_some]
 repeat' split
 all_goals (refine congrArg some ?_;rw [Zs];simp only [Yr,CQ] at *; grind)
end Go.Proofs.YtjldbnbdcmfbmaaGreat
end

section
namespace Go.Proofs.YtjldbnbdcmfbmaaGreat
open Go Go.AM
set_option linter.unusedSimpArgs false
set_option linter.unusedVariables false
set_option maxRecDepth 100000
def ZnD (obj a sz bits r w l:Int) (d:Bool) (j:Nat):List AV:=[I obj,I (a+j*sz),I bits,I r,I w,I l,B d]
def YW (obj a sz bits r w l:Int) (d:Bool) (n:Nat):List (List AV):=(List.range n).map (ZnD obj a sz bits r w l d)
theorem Ze8 (obj a sz bits r w l:Int) (d:Bool) (n:Nat):YW obj a sz bits r w l d (n+1)=YW obj a sz bits r w l d n++[ZnD obj a sz bits r w l d n]:=by
 simp [YW,List.range_succ]
theorem ZbA (obj a sz bits r w l:Int) (d:Bool) (n:Nat):(YW obj a sz bits r w l d n).length=n:=by simp [YW]
theorem Vk {n:Nat} (h:n < 2^64):n < ZE:=by
 have:ZE=1208925819614629174706176:=rfl
 omega
theorem Zl3 {a b:List (List AV)} {k:Nat} (h:(a.length+b.length)*(k+1)≤1099511627776):Ju a b k:=h
theorem Zn5 {k b:Int} (h:Vo k b=true):6≤b∧b≤40:=by
 simp only [Vo,decide_eq_true_eq] at h
 omega
theorem Znq {c:Cap} (h:Yr c=true):KX c.base c.bits=true:=by
 simp only [Yr,Bool.and_eq_true] at h
 exact h.1.1.1.2
def Zdk (c:Cap) (obj bits level width off cnt:Int):Int:=
 if Yr c=false∨c.kind≠1 then 5
 else if iop .and .i64 c.rights 2=0 then 8
 else if Vo obj bits=false∨(obj=3∧Zbu width level=false)∨cnt < 1∨8 < cnt∨off < 0 then 1
 else if c.device=true∧obj≠1∧obj≠2 then 5
 else if off % 2^bits.toNat≠0∨2^c.bits.toNat-cnt*2^bits.toNat < off∨(obj=1∧c.bits≤bits) then 6
 else 0
def Wa (c:Cap) (obj bits level width off cnt:Int):List (List AV):=
 if Zdk c obj bits level width off cnt=0 then YW obj (c.base+off) (2^bits.toNat) bits c.rights (if obj=3 then width else 0) (if obj=3 then level else 0) c.device cnt.toNat else []
theorem ZhL {c:Cap} {obj bits level width off cnt e:Int} (he:e≠0) (h:Zdk c obj bits level width off cnt=e) :
  some (E0,e)=some (Wa c obj bits level width off cnt,Zdk c obj bits level width off cnt):=by
 simp only [Wa,h,if_neg he]
theorem Zo6 {c:Cap} {obj bits off cnt:Int} (hc:Yr c=true) (hs:Vo obj bits=true) (h1:1≤cnt) (h2:cnt≤8) (h3:0≤off) :
  iop .shl .i64 1 bits=2^bits.toNat∧iop .rem .i64 off (2^bits.toNat)=off % 2^bits.toNat∧iop .shl .i64 1 c.bits=2^c.bits.toNat∧iop .mul .i64 cnt (2^bits.toNat)=cnt*2^bits.toNat∧
   iop .sub .i64 (2^c.bits.toNat) (cnt*2^bits.toNat)=2^c.bits.toNat-cnt*2^bits.toNat∧(2:Int)^bits.toNat≠0∧0≤bits∧0≤c.bits∧0≤c.base∧c.base+2^c.bits.toNat≤1099511627776∧
   0 < (2:Int)^bits.toNat∧(2:Int)^bits.toNat≤1099511627776∧(2:Int)^bits.toNat≤cnt*2^bits.toNat∧0 < (2:Int)^c.bits.toNat∧bits≤40∧c.bits≤40:=by
 obtain ⟨b1,b2⟩:=Zn5 hs
 obtain ⟨r1,r2,r3,r4,r5⟩:=ZbQ (Znq hc)
 have p1:=J2 bits.toNat
 have p2:=J2 c.bits.toNat
 have q1:=Zji b2
 have q2:=Zji r2
 have m1:cnt*2^bits.toNat≤8*2^bits.toNat:=Int.mul_le_mul_of_nonneg_right (by omega) (by omega)
 have m2:1*2^bits.toNat≤cnt*2^bits.toNat:=Int.mul_le_mul_of_nonneg_right (by omega) (by omega)
 refine ⟨Zta (by omega),ZiD (by omega),Zta (by omega),ZtZ (by omega) (by omega),Zh2 (by omega) (by omega),by omega,by omega,by omega,r3,r5,p1,q1,by omega,p2,b2,r2⟩
theorem Ziq {γ:Type} {p:Prop} {_:Decidable p} (h:p):(ZA p:Option γ→Option γ)=fun x=>x:=funext fun x=>Zl h x
theorem Zov:∃ f,ZE=f+1+1+1+1+1+1:=⟨ZE-6,by decide⟩
end Go.Proofs.YtjldbnbdcmfbmaaGreat
end

section
namespace Go.Proofs.YtjldbnbdcmfbmaaGreat
open Go Go.AM
set_option linter.unusedSimpArgs false
set_option linter.unusedVariables false
set_option maxRecDepth 100000
abbrev ZAg:List Sh:=[.int .i64,.int .i64,.int .i64]
def K3 (i:Id):Bool:=decide (0≤i.core∧i.core < 32∧1≤i.op∧i.op≤1073741824∧0≤i.part∧i.part < 8)
theorem s99 (a b c:Int):g99 a b c=some (K3 ⟨a,b,c⟩):=by
 rw [ZvX]
 repeat' split
 all_goals (refine congrArg some ?_;rw [Zs];simp only [K3,CQ] at *; omega)
theorem ZBl (a:Int):ZwE a=some false:=by
 rw [ZsL]
 simp [cop]
def ZpZ (a b:Int):Int:=if a < b then -1 else if b < a then 1 else 0
theorem ZBC (a b:Int):ZtI a b=some (ZpZ a b):=by
 rw [ZrC]
 simp only [ZBl,Option.bind_some,Bool.false_eq_true,if_false]
 by_cases h1:a < b
 ·rw [if_pos (by simp only [CQ];omega),ZpZ,if_pos h1]
 ·by_cases h2:b < a
  ·rw [if_neg (by simp only [CQ];omega),if_pos (by simp only [CQ];omega),ZpZ,if_neg h1,if_pos h2]
  ·rw [if_neg (by simp only [CQ];omega),if_neg (by simp only [CQ];omega),ZpZ,if_neg h1,if_neg h2]
def WL (x y z:Int):Int:=if x≠0 then x else if y≠0 then y else z
theorem ZAV (x y z:Int):Zy4 (((E0++[[AV.val (.int .i64 x)]])++[[AV.val (.int .i64 y)]])++[[AV.val (.int .i64 z)]])=some (WL x y z):=by
 obtain ⟨f,hf⟩:=Zov
 have e:(((E0++[[AV.val (.int .i64 x)]])++[[AV.val (.int .i64 y)]])++[[AV.val (.int .i64 z)]]) = [Wf x,Wf y,Wf z]:=rfl
 have e1:iop .add .i64 0 1=1:=by decide
 have e2:iop .add .i64 1 1=2:=by decide
 have e3:iop .add .i64 2 1=3:=by decide
 have hl:(([Wf x,Wf y,Wf z] : List (List AV)).length:Int)=3:=rfl
 rw [Zrf,e,hf,hl]
 rw [Zaj,if_pos (by decide),YA (sh:=[.int .i64]) (cs:=Wf x) (r:=x) _ (by decide) rfl rfl]
 by_cases hx:x=0
 ·rw [if_neg (by simp only [CQ];omega),e1,Zaj,if_pos (by decide),YA (sh:=[.int .i64]) (cs:=Wf y) (r:=y) _ (by decide) rfl rfl]
  by_cases hy:y=0
  ·rw [if_neg (by simp only [CQ];omega),e2,Zaj,if_pos (by decide),YA (sh:=[.int .i64]) (cs:=Wf z) (r:=z) _ (by decide) rfl rfl]
   by_cases hz:z=0
   ·rw [if_neg (by simp only [CQ];omega),e3,Zaj,if_neg (by decide)]
    simp [WL,hx,hy,hz]
   ·rw [if_pos (by simp only [CQ];omega)]
    simp [WL,hx,hy]
  ·rw [if_pos (by simp only [CQ];omega)]
   simp [WL,hx,hy]
 ·rw [if_pos (by simp only [CQ];omega)]
  simp [WL,hx]
theorem ZBf (a b c d e f:Int):Zx4 a b c d e f=some (WL (ZpZ a d) (ZpZ b e) (ZpZ c f)):=by
 rw [Zq9]
 simp only [ZBC,Option.bind_some,ZAV]
def Zs5 (a b c d e f:Int):Bool:=decide (a < d∨(a=d∧(b < e∨(b=e∧c < f))))
theorem ZAN (a b c d e f:Int):Zw1 a b c d e f=some (Zs5 a b c d e f):=by
 rw [ZrX,ZBf,Option.bind_some]
 refine congrArg some ?_
 rw [Zs]
 simp only [Zs5,CQ,ZpZ,WL]
 repeat' split
 all_goals omega
theorem ZY (l:List Id):(Zc l).length=l.length:=by simp [Zc]
theorem Zjk (l:List Id) (n:Nat):(Zc l).take n=Zc (l.take n):=by simp [Zc,List.map_take]
theorem Zu5 {l:List Id} {i:Nat} {x:Id} (h:l[i]? = some x):(Zc l)[i]? = some (idc x):=by simp [Zc,h]
theorem VH {γ:Type} {l:List Id} {i:Int} {x:Id} (k:(Int×Int×Int)→Option γ) (h0:0≤i) (h:l[i.toNat]? = some x):Zj (Zc l) i ZAg k=k (x.core,x.op,x.part):=
 YA (sh:=ZAg) (r:=(x.core,x.op,x.part)) k h0 (Zu5 h) rfl
theorem Yn (a b c d e f:Int):((cop .eql a d&&(cop .eql b e&&(cop .eql c f&&true)))=true)↔((⟨a,b,c⟩:Id)=⟨d,e,f⟩):=by
 simp only [CQ,Id.mk.injEq,and_true]
theorem ZBI {l:List Id} (hl:l.length < 2^63) (a b c:Int):∀ (j i fuel:Nat),l.length=i+j→j < fuel→∃ r,Zf0 fuel (Zc l) a b c (l.length:Int) i=some r∧(0≤r↔(⟨a,b,c⟩:Id)∈l.drop i):=by
 intro j
 induction j with
 | zero =>
  intro i fuel h hf
  obtain ⟨f,rfl⟩:∃ f,fuel=f+1:=⟨fuel-1,by omega⟩
  refine ⟨-1,by rw [ZgB,if_neg (by simp only [CQ];omega)],?_⟩
  rw [List.drop_of_length_le (by omega)]
  simp
 | succ j ih =>
  intro i fuel h hf
  obtain ⟨f,rfl⟩:∃ f,fuel=f+1:=⟨fuel-1,by omega⟩
  have hi:i < l.length:=by omega
  have hat:l[(i:Int).toNat]? = some l[i]:=by simp
  have a4:iop .add .i64 i 1=((i+1:Nat):Int):=by rw [J8 (by omega) (by omega)];omega
  rw [ZgB,if_pos (by simp only [CQ];omega),VH _ (by omega) hat,a4,List.drop_eq_getElem_cons hi]
  by_cases he:(⟨a,b,c⟩:Id)=l[i]
  ·refine ⟨i,?_,?_⟩
   ·rw [if_pos]
    rw [Yn]
    exact he
   ·rw [List.mem_cons]
    exact ⟨fun _=>.inl he,fun _=>by omega⟩
  ·obtain ⟨r,h1,h2⟩:=ih (i+1) f (by omega) (by omega)
   refine ⟨r,?_,?_⟩
   ·rw [if_neg,h1]
    rw [Yn]
    exact he
   ·rw [h2,List.mem_cons]
    simp [he]
theorem ZCl (l:List Id) (hl:l.length < 2^63) (a b c:Int):ZzV (Zc l) a b c=some (l.contains ⟨a,b,c⟩):=by
 obtain ⟨r,h1,h2⟩:=ZBI hl a b c l.length 0 ZE (by omega) (Vk (by omega))
 rw [Zrv,ZrW,ZY]
 have h1':Zf0 ZE (Zc l) a b c (l.length:Int) 0=some r:=h1
 rw [h1',Option.bind_some]
 refine congrArg some ?_
 rw [Zs]
 simp only [CQ,List.contains_iff_mem]
 rw [List.drop_zero] at h2
 exact h2
structure Yi where
 id:Id
 path:List Id
 cap:Cap
def KO (n:Yi) (i:Nat):Bool:=match n.path[i]? with | none=>true | some x=>K3 x&&decide (x≠n.id)&&!(n.path.take i).contains x
def ZO (n:Yi):Bool:=K3 n.id&&Yr n.cap&&decide (n.path.length≤8)&&(List.range n.path.length).all (KO n)
theorem l95 (n:Yi) (hl:n.path.length < 2^63):∀ (j i fuel:Nat),n.path.length=i+j→j < fuel→
  Zol fuel n.id.core n.id.op n.id.part (Zc n.path) n.cap.kind n.cap.base n.cap.bits n.cap.rights n.cap.width n.cap.level n.cap.device (Zc n.path) (n.path.length:Int) i=some ((List.range' i j).all (KO n)):=by
 intro j
 induction j with
 | zero =>
  intro i fuel h hf
  obtain ⟨f,rfl⟩:∃ f,fuel=f+1:=⟨fuel-1,by omega⟩
  rw [Zjv,if_neg (by simp only [CQ];omega)]
  rfl
 | succ j ih =>
  intro i fuel h hf
  obtain ⟨f,rfl⟩:∃ f,fuel=f+1:=⟨fuel-1,by omega⟩
  have hi:i < n.path.length:=by omega
  have hat:n.path[(i:Int).toNat]? = some n.path[i]:=by simp
  have a4:iop .add .i64 i 1=((i+1:Nat):Int):=by rw [J8 (by omega) (by omega)];omega
  have hp:KO n i=(K3 n.path[i]&&decide (n.path[i]≠n.id)&&!(n.path.take i).contains n.path[i]):=by
   unfold KO
   rw [List.getElem?_eq_getElem hi]
  have hlt:(n.path.take i).length < 2^63:=by rw [List.length_take];omega
  rw [Zjv,if_pos (by simp only [CQ];omega),VH _ (by omega) hat,a4,List.range'_succ,List.all_cons,hp]
  simp only [s99,Option.bind_some]
  cases h1:K3 n.path[i] with
  | false => simp
  | true =>
   rw [if_neg (by simp)]
   by_cases h2:n.path[i]=n.id
   ·rw [if_pos (by rw [Yn];exact h2)]
    simp [h2]
   ·rw [if_neg (by rw [Yn];exact h2),Zl (by omega),Zl (by rw [ZY];omega),Int.toNat_natCast,Zjk,ZCl _ hlt,Option.bind_some]
    cases h3:(n.path.take i).contains n.path[i] with
    | true => simp
    | false =>
     rw [if_neg (by simp)]
     have:=ih (i+1) f (by omega) (by omega)
     rw [this]
     simp [h2]
theorem s95 (n:Yi) (hl:n.path.length < 2^63):g95 n.id.core n.id.op n.id.part (Zc n.path) n.cap.kind n.cap.base n.cap.bits n.cap.rights n.cap.width n.cap.level n.cap.device=some (ZO n):=by
 rw [Zv8]
 simp only [s99,ZAM,Option.bind_some,ZY]
 unfold ZO
 cases h1:K3 n.id with
 | false => simp [show (⟨n.id.core, n.id.op, n.id.part⟩ : Id) = n.id from rfl, h1]
 | true =>
  cases h2:Yr n.cap with
  | false => simp [show (⟨n.id.core, n.id.op, n.id.part⟩ : Id) = n.id from rfl, h1, show (⟨n.cap.kind, n.cap.base, n.cap.bits, n.cap.rights, n.cap.width, n.cap.level, n.cap.device⟩ : Cap) = n.cap from rfl, h2]
  | true =>
   rw [if_neg (by simp),if_neg (by simp)]
   by_cases h3:n.path.length≤8
   ·rw [if_neg (by simp only [CQ];omega)]
    have:=l95 n hl n.path.length 0 ZE (by omega) (Vk (by omega))
    have e:(List.range' 0 n.path.length)=List.range n.path.length:=(List.range_eq_range' ..).symm
    rw [e] at this
    refine this.trans ?_
    simp [h3]
   ·rw [if_pos (by simp only [CQ];omega)]
    simp [h3]
end Go.Proofs.YtjldbnbdcmfbmaaGreat
end

section
namespace Go.Proofs.YtjldbnbdcmfbmaaGreat
open Go Go.AM
set_option linter.unusedSimpArgs false
set_option linter.unusedVariables false
set_option maxRecDepth 100000
theorem Zyt (a b c:Int):ZtS a b c=some (K3 ⟨a,b,c⟩):=by
 rw [ZqG]
 repeat' split
 all_goals (refine congrArg some ?_;rw [Zs];simp only [K3,CQ] at *; omega)
theorem l78 {l:List Id} (hl:l.length < 2^63) (a b c:Int):∀ (j i fuel:Nat),l.length=i+j→j < fuel→ZpB fuel (Zc l) a b c i=some ((l.drop i).contains ⟨a,b,c⟩):=by
 intro j
 induction j with
 | zero =>
  intro i fuel h hf
  obtain ⟨f,rfl⟩:∃ f,fuel=f+1:=⟨fuel-1,by omega⟩
  rw [Zka,if_neg (by simp only [CQ,ZY];omega),List.drop_of_length_le (by omega)]
  rfl
 | succ j ih =>
  intro i fuel h hf
  obtain ⟨f,rfl⟩:∃ f,fuel=f+1:=⟨fuel-1,by omega⟩
  have hi:i < l.length:=by omega
  have hat:l[(i:Int).toNat]? = some l[i]:=by simp
  have a4:iop .add .i64 i 1=((i+1:Nat):Int):=by rw [J8 (by omega) (by omega)];omega
  rw [Zka,if_pos (by simp only [CQ,ZY];omega),VH _ (by omega) hat,a4,List.drop_eq_getElem_cons hi,List.contains_cons]
  by_cases he:l[i]=(⟨a,b,c⟩:Id)
  ·rw [if_pos (by rw [Yn];exact he)]
   simp [he]
  ·rw [if_neg (by rw [Yn];exact he),ih (i+1) f (by omega) (by omega)]
   have:((⟨a,b,c⟩:Id) == l[i])=false:=by simp;exact fun h=>he h.symm
   rw [this,Bool.false_or]
theorem s78 (l:List Id) (hl:l.length < 2^63) (a b c:Int):g78 (Zc l) a b c=some (l.contains ⟨a,b,c⟩):=by
 have:=l78 hl a b c l.length 0 ZE (by omega) (Vk (by omega))
 rw [Zwa]
 exact this
def Zbn (n:Yi) (i:Nat):Bool:=match n.path[i]? with | none=>true | some x=>K3 x&&!(n.path.take i).contains x
theorem Zlb (n:Yi):ZO n=(K3 n.id&&Yr n.cap&&decide (n.path.length≤8)&&(!n.path.contains n.id&&(List.range n.path.length).all (Zbn n))):=by
 unfold ZO
 congr 1
 rw [Zs]
 simp only [Bool.and_eq_true,List.all_eq_true,List.mem_range,Bool.not_eq_true',← Bool.not_eq_true,List.contains_iff_mem]
 constructor
 ·intro h
  refine ⟨fun hc=>?_,fun i hi=>?_⟩
  ·obtain ⟨i,hi⟩:=List.mem_iff_getElem?.1 hc
   have:=h i (List.getElem?_eq_some_iff.1 hi).1
   unfold KO at this
   rw [hi] at this
   simp at this
  ·have:=h i hi
   unfold KO at this
   unfold Zbn
   rw [List.getElem?_eq_getElem hi] at this ⊢
   simp only [Bool.and_eq_true] at this ⊢
   exact ⟨this.1.1,this.2⟩
 ·intro ⟨h1,h2⟩ i hi
  have:=h2 i hi
  unfold Zbn at this
  unfold KO
  rw [List.getElem?_eq_getElem hi] at this ⊢
  simp only [Bool.and_eq_true,decide_eq_true_eq] at this ⊢
  exact ⟨⟨this.1,fun he=>h1 (he ▸ List.getElem_mem hi)⟩,this.2⟩
theorem l61 (n:Yi) (hl:n.path.length < 2^63):∀ (j i fuel:Nat),n.path.length=i+j→j < fuel→
  ZoI fuel n.id.core n.id.op n.id.part (Zc n.path) n.cap.kind n.cap.base n.cap.bits n.cap.rights n.cap.width n.cap.level n.cap.device i=some ((List.range' i j).all (Zbn n)):=by
 intro j
 induction j with
 | zero =>
  intro i fuel h hf
  obtain ⟨f,rfl⟩:∃ f,fuel=f+1:=⟨fuel-1,by omega⟩
  rw [Zkd,if_neg (by simp only [CQ,ZY];omega)]
  rfl
 | succ j ih =>
  intro i fuel h hf
  obtain ⟨f,rfl⟩:∃ f,fuel=f+1:=⟨fuel-1,by omega⟩
  have hi:i < n.path.length:=by omega
  have hat:n.path[(i:Int).toNat]? = some n.path[i]:=by simp
  have a4:iop .add .i64 i 1=((i+1:Nat):Int):=by rw [J8 (by omega) (by omega)];omega
  have hp:Zbn n i=(K3 n.path[i]&&!(n.path.take i).contains n.path[i]):=by
   unfold Zbn
   rw [List.getElem?_eq_getElem hi]
  have hlt:(n.path.take i).length < 2^63:=by rw [List.length_take];omega
  rw [Zkd,if_pos (by simp only [CQ,ZY];omega),VH _ (by omega) hat,a4,List.range'_succ,List.all_cons,hp]
  simp only [Zyt,Option.bind_some]
  cases h1:K3 n.path[i] with
  | false => simp
  | true =>
   rw [if_neg (by simp),Zl (by omega),Zl (by rw [ZY];omega),VH _ (by omega) hat,Int.toNat_natCast,Zjk,s78 _ hlt,Option.bind_some]
   cases h3:(n.path.take i).contains n.path[i] with
   | true => simp
   | false =>
    rw [if_neg (by simp)]
    have:=ih (i+1) f (by omega) (by omega)
    rw [this]
    simp
theorem s61 (n:Yi) (hl:n.path.length < 2^63):g61 n.id.core n.id.op n.id.part (Zc n.path) n.cap.kind n.cap.base n.cap.bits n.cap.rights n.cap.width n.cap.level n.cap.device=some (ZO n):=by
 rw [Zub,Zlb]
 simp only [Zyt,Zzh,Option.bind_some,ZY,s78 _ hl]
 cases h1:K3 n.id with
 | false => simp [show (⟨n.id.core, n.id.op, n.id.part⟩ : Id) = n.id from rfl, h1]
 | true =>
  cases h2:Yr n.cap with
  | false => simp [show (⟨n.id.core, n.id.op, n.id.part⟩ : Id) = n.id from rfl, h1, show (⟨n.cap.kind, n.cap.base, n.cap.bits, n.cap.rights, n.cap.width, n.cap.level, n.cap.device⟩ : Cap) = n.cap from rfl, h2]
  | true =>
   rw [if_neg (by simp),if_neg (by simp)]
   by_cases h3:n.path.length≤8
   ·rw [if_neg (by simp only [CQ];omega)]
    cases h4:n.path.contains n.id with
    | true => simp
    | false =>
     rw [if_neg (by simp)]
     have:=l61 n hl n.path.length 0 ZE (by omega) (Vk (by omega))
     have e:(List.range' 0 n.path.length)=List.range n.path.length:=(List.range_eq_range' ..).symm
     rw [e] at this
     refine this.trans ?_
     simp [h3]
   ·rw [if_pos (by simp only [CQ];omega)]
    simp [h3]
theorem l69 {l m:List Id} (hl:l.length < 2^63) (hm:l.length=m.length):∀ (j i fuel:Nat),l.length=i+j→j < fuel→ZoT fuel (Zc l) (Zc m) i=some (decide (l.drop i=m.drop i)):=by
 intro j
 induction j with
 | zero =>
  intro i fuel h hf
  obtain ⟨f,rfl⟩:∃ f,fuel=f+1:=⟨fuel-1,by omega⟩
  rw [ZjN,if_neg (by simp only [CQ,ZY];omega),List.drop_of_length_le (by omega),List.drop_of_length_le (by omega)]
  rfl
 | succ j ih =>
  intro i fuel h hf
  obtain ⟨f,rfl⟩:∃ f,fuel=f+1:=⟨fuel-1,by omega⟩
  have hi:i < l.length:=by omega
  have hi':i < m.length:=by omega
  have hat:l[(i:Int).toNat]? = some l[i]:=by simp
  have hat':m[(i:Int).toNat]? = some m[i]:=by simp
  have a4:iop .add .i64 i 1=((i+1:Nat):Int):=by rw [J8 (by omega) (by omega)];omega
  rw [ZjN,if_pos (by simp only [CQ,ZY];omega),VH _ (by omega) hat,VH _ (by omega) hat',a4,List.drop_eq_getElem_cons hi,List.drop_eq_getElem_cons hi']
  by_cases he:l[i]=m[i]
  ·rw [if_neg (by rw [Bool.not_eq_true',← Bool.not_eq_true,Yn];exact fun h=>h he),ih (i+1) f (by omega) (by omega)]
   simp only [he,List.cons.injEq,true_and]
  ·rw [if_pos (by rw [Bool.not_eq_true',← Bool.not_eq_true,Yn];exact he)]
   simp only [List.cons.injEq,he,false_and,decide_false]
theorem s69 (l m:List Id) (hl:l.length < 2^63) (hm:m.length < 2^63):g69 (Zc l) (Zc m)=some (decide (l=m)):=by
 rw [Zve,ZY,ZY]
 by_cases h:l.length=m.length
 ·rw [if_neg (by simp only [CQ];omega)]
  have:=l69 hl h l.length 0 ZE (by omega) (Vk (by omega))
  rw [List.drop_zero,List.drop_zero] at this
  exact this
 ·rw [if_pos (by simp only [CQ];omega)]
  have:¬ l=m:=fun he=>h (by rw [he])
  simp [this]
end Go.Proofs.YtjldbnbdcmfbmaaGreat
end

section
namespace Go.Proofs.YtjldbnbdcmfbmaaGreat
open Go Go.AM
set_option linter.unusedSimpArgs false
set_option linter.unusedVariables false
set_option maxRecDepth 100000
theorem Wv {n:Nat} (h:n < 2^63):n+1 < ZE:=by
 have:(2:Nat)^64≤ZE:=by decide
 omega
theorem Jd {i n:Nat} (h:i < n) (hn:n < 2^63):iop .add .i64 (i:Int) 1=((i+1:Nat):Int):=by
 rw [J8 (by omega) (by omega)];omega
theorem Jg {i n:Nat} (h:i < n):(cop .lss (i:Int) (n:Int))=true:=by
 simp only [CQ];omega
theorem Jh {i n:Nat} (h:n≤i):¬ (cop .lss (i:Int) (n:Int))=true:=by
 simp only [CQ];omega
theorem Jp {γ:Type} {F:Nat→Int→Option γ} {n:Nat} {fin bad:Option γ} (p:Nat→Bool) (hn:n < 2^63) (i0:Nat) (hi0:i0≤1)
  (step:∀ k i:Nat,i0≤i→i < n→F (k+1) (i:Int)=if p i=true then F k ((i+1:Nat):Int) else bad)
  (last:∀ k i:Nat,n≤i→F (k+1) (i:Int)=fin):F ZE (i0:Int)=if (List.range' i0 (n-i0)).all p=true then fin else bad:=by
 have key:∀ (j i fuel:Nat),i0≤i→n≤i+j→j < fuel→F fuel (i:Int)=if (List.range' i (n-i)).all p=true then fin else bad:=by
  intro j
  induction j with
  | zero =>
   intro i fuel h0 h hf
   obtain ⟨f,rfl⟩:∃ f,fuel=f+1:=⟨fuel-1,by omega⟩
   rw [last f i (by omega),show n-i=0 by omega]
   rfl
  | succ j ih =>
   intro i fuel h0 h hf
   obtain ⟨f,rfl⟩:∃ f,fuel=f+1:=⟨fuel-1,by omega⟩
   by_cases hi:i < n
   ·rw [step f i h0 hi,show n-i=(n-(i+1))+1 by omega,List.range'_succ,List.all_cons]
    cases hp:p i with
    | true => rw [if_pos rfl, ih (i + 1) f (by omega) (by omega) (by omega), Bool.true_and]
    | false => rw [if_neg Bool.false_ne_true, Bool.false_and, if_neg Bool.false_ne_true]
   ·rw [last f i (by omega),show n-i=0 by omega]
    rfl
 exact key n i0 ZE (Nat.le_refl _) (by omega) (by have:=Wv hn;omega)
theorem YB {F:Nat→Int→Option Int} {n:Nat} (p:Nat→Bool) (hn:n < 2^63)
  (step:∀ k i:Nat,i < n→F (k+1) (i:Int)=if p i=true then some (i:Int) else F k ((i+1:Nat):Int))
  (last:∀ k i:Nat,n≤i→F (k+1) (i:Int)=some (-1)):∃ r,F ZE 0=some r∧cop .geq r 0=(List.range' 0 n).any p:=by
 have key:∀ (j i fuel:Nat),n≤i+j→j < fuel→∃ r,F fuel (i:Int)=some r∧cop .geq r 0=(List.range' i (n-i)).any p:=by
  intro j
  induction j with
  | zero =>
   intro i fuel h hf
   obtain ⟨f,rfl⟩:∃ f,fuel=f+1:=⟨fuel-1,by omega⟩
   rw [last f i (by omega),show n-i=0 by omega]
   exact ⟨_,rfl,rfl⟩
  | succ j ih =>
   intro i fuel h hf
   obtain ⟨f,rfl⟩:∃ f,fuel=f+1:=⟨fuel-1,by omega⟩
   by_cases hi:i < n
   ·rw [step f i hi,show n-i=(n-(i+1))+1 by omega,List.range'_succ,List.any_cons]
    cases hp:p i with
    | true =>
     rw [if_pos rfl,Bool.true_or]
     refine ⟨_,rfl,?_⟩
     simp only [CQ]
     omega
    | false => rw [if_neg Bool.false_ne_true, Bool.false_or]; exact ih (i + 1) f (by omega) (by omega)
   ·rw [last f i (by omega),show n-i=0 by omega]
    exact ⟨_,rfl,rfl⟩
 have:=key n 0 ZE (by omega) (by have:=Wv hn;omega)
 simpa using this
def atB {α:Type} (q:α→Bool) (l:List α) (i:Nat):Bool:=match l[i]? with | some x=>q x | none=>true
theorem J7 {α:Type} (q:α→Bool) {l:List α} {i:Nat} (h:i < l.length):atB q l i=q l[i]:=by
 unfold atB
 rw [List.getElem?_eq_getElem h]
theorem Zkh {α:Type} (q:α→Bool) (l:List α):(List.range' 0 l.length).all (atB q l)=l.all q:=by
 rw [Zs,List.all_eq_true,List.all_eq_true]
 constructor
 ·intro h x hx
  obtain ⟨i,hi,rfl⟩:=List.getElem_of_mem hx
  have:=h i (by simp [List.mem_range',hi])
  rwa [J7 q hi] at this
 ·intro h i hi
  have hi':i < l.length:=by simpa [List.mem_range'] using hi
  rw [J7 q hi']
  exact h _ (List.getElem_mem hi')
theorem VG {α:Type} (q:α→Bool) (l:List α):(List.range' 0 l.length).any (fun i=>!atB q l i) = !(l.all q):=by
 rw [← Zkh q l,List.any_eq_not_all_not]
 simp
def Zhc {α:Type} (lt:α→α→Bool) (l:List α):Nat→Bool
 | 0 => true
 | j + 1 => match l[j]?, l[j + 1]? with | some a, some b => lt a b | _, _ => true
def Vu {α:Type} (lt:α→α→Bool) (l:List α):Bool:=(List.range' 0 l.length).all (Zhc lt l)
theorem WT {α:Type} (lt:α→α→Bool) {l:List α} {j:Nat} (h:j+1 < l.length):Zhc lt l (j+1)=lt l[j] l[j+1]:=by
 show (match l[j]?,l[j+1]? with | some a,some b=>lt a b | _,_=>true)=_
 rw [List.getElem?_eq_getElem h,List.getElem?_eq_getElem (show j < l.length by omega)]
theorem ZuI {α:Type} (lt:α→α→Bool) (l:List α):(List.range' 1 (l.length-1)).all (Zhc lt l)=Vu lt l:=by
 unfold Vu
 cases l with
 | nil => rfl
 | cons a r => rw [show (a :: r).length = ((a :: r).length - 1) + 1 from rfl, List.range'_succ, List.all_cons]; rfl
theorem Zm6 {α:Type} (l:List α) (p q:α→Bool):l.all (fun i=>p i&&q i)=(l.all p&&l.all q):=by
 induction l with
 | nil => rfl
 | cons a r ih => simp only [List.all_cons, ih]; cases p a <;> cases q a <;> cases r.all p <;> rfl
structure Call where
 kind:Int
 slot:Int
 dest:Int
 core:Int
 mask:Int
 object:Int
 bits:Int
 level:Int
 offset:Int
 count:Int
 index:Int
 addr:Int
structure Req where
 id:Id
 call:Call
 region:Int
 width:Int
 src:Yi
structure Kc where
 node:Yi
 op:Int
 lock:Id
structure ZcA where
 region:Int
 op:Id
structure Ans where
 op:Int
 err:Int
structure Zx where
 core:Int
 slot:Int
 node:Yi
structure ZfT where
 region:Int
 to:Int
structure VV where
 number:Int
 members:List Int
 owners:List Int
structure Jv where
 slots:List Kc
 pending:List Req
 marks:List ZcA
 answers:List Ans
 entries:List Zx
 commits:List Id
structure Jm where
 core:Int
 view:VV
 state:Jv
 ready:Bool
 next:VV
 proposal:Jv
def Jx (n:Yi):List AV:=[I n.id.core,I n.id.op,I n.id.part,.slice false 3 (Zc n.path),I n.cap.kind,I n.cap.base,I n.cap.bits,I n.cap.rights,I n.cap.width,I n.cap.level,B n.cap.device]
def ZN (r:Req):List AV:=[I r.id.core,I r.id.op,I r.id.part,I r.call.kind,I r.call.slot,I r.call.dest,I r.call.core,I r.call.mask,I r.call.object,I r.call.bits,I r.call.level,I r.call.offset,I r.call.count,I r.call.index,I r.call.addr,I r.region,I r.width,I r.src.id.core,I r.src.id.op,I r.src.id.part,.slice false 3 (Zc r.src.path),I r.src.cap.kind,I r.src.cap.base,I r.src.cap.bits,I r.src.cap.rights,I r.src.cap.width,I r.src.cap.level,B r.src.cap.device]
def Zh (s:Kc):List AV:=[I s.node.id.core,I s.node.id.op,I s.node.id.part,.slice false 3 (Zc s.node.path),I s.node.cap.kind,I s.node.cap.base,I s.node.cap.bits,I s.node.cap.rights,I s.node.cap.width,I s.node.cap.level,B s.node.cap.device,I s.op,I s.lock.core,I s.lock.op,I s.lock.part]
def Zm (m:ZcA):List AV:=[I m.region,I m.op.core,I m.op.op,I m.op.part]
def ZS (a:Ans):List AV:=[I a.op,I a.err]
def JC (a:ZfT):List AV:=[I a.region,I a.to]
def Ze (e:Zx):List AV:=[I e.core,I e.slot,I e.node.id.core,I e.node.id.op,I e.node.id.part,.slice false 3 (Zc e.node.path),I e.node.cap.kind,I e.node.cap.base,I e.node.cap.bits,I e.node.cap.rights,I e.node.cap.width,I e.node.cap.level,B e.node.cap.device]
abbrev ZlE:List Sh:=[.int .i64,.int .i64,.int .i64,.slice 3,.int .i64,.int .i64,.int .i64,.int .i64,.int .i64,.int .i64,.bool]
abbrev ZrZ:List Sh:=[.int .i64,.int .i64,.int .i64,.int .i64,.int .i64,.int .i64,.int .i64,.int .i64,.int .i64,.int .i64,.int .i64,.int .i64,.int .i64,.int .i64,.int .i64,.int .i64,.int .i64,.int .i64,.int .i64,.int .i64,.slice 3,.int .i64,.int .i64,.int .i64,.int .i64,.int .i64,.int .i64,.bool]
abbrev Zmi:List Sh:=[.int .i64,.int .i64,.int .i64,.slice 3,.int .i64,.int .i64,.int .i64,.int .i64,.int .i64,.int .i64,.bool,.int .i64,.int .i64,.int .i64,.int .i64]
abbrev Zc3:List Sh:=[.int .i64,.int .i64,.int .i64,.int .i64,.int .i64,.slice 3,.int .i64,.int .i64,.int .i64,.int .i64,.int .i64,.int .i64,.bool]
def Zkq (n:Yi):ShsT ZlE:=(n.id.core,n.id.op,n.id.part,Zc n.path,n.cap.kind,n.cap.base,n.cap.bits,n.cap.rights,n.cap.width,n.cap.level,n.cap.device)
def Ztl (r:Req):ShsT ZrZ:=(r.id.core,r.id.op,r.id.part,r.call.kind,r.call.slot,r.call.dest,r.call.core,r.call.mask,r.call.object,r.call.bits,r.call.level,r.call.offset,r.call.count,r.call.index,r.call.addr,r.region,r.width,r.src.id.core,r.src.id.op,r.src.id.part,Zc r.src.path,r.src.cap.kind,r.src.cap.base,r.src.cap.bits,r.src.cap.rights,r.src.cap.width,r.src.cap.level,r.src.cap.device)
def ZkR (s:Kc):ShsT Zmi:=(s.node.id.core,s.node.id.op,s.node.id.part,Zc s.node.path,s.node.cap.kind,s.node.cap.base,s.node.cap.bits,s.node.cap.rights,s.node.cap.width,s.node.cap.level,s.node.cap.device,s.op,s.lock.core,s.lock.op,s.lock.part)
def Yg (e:Zx):ShsT Zc3:=(e.core,e.slot,e.node.id.core,e.node.id.op,e.node.id.part,Zc e.node.path,e.node.cap.kind,e.node.cap.base,e.node.cap.bits,e.node.cap.rights,e.node.cap.width,e.node.cap.level,e.node.cap.device)
theorem Yj {α γ:Type} {f:α→List AV} {sh:List Sh} {v:α→ShsT sh} (hf:∀ x,Zne sh (f x)=some (v x)) {l:List α} {i:Nat} (h:i < l.length) (k:ShsT sh→Option γ):Zj (l.map f) (i:Int) sh k=k (v l[i]):=by
 refine YA k (by omega) (cs:=f l[i]) ?_ (hf _)
 rw [Int.toNat_natCast,List.getElem?_map,List.getElem?_eq_getElem h]
 rfl
theorem Kf {γ:Type} {l:List Yi} {i:Nat} (h:i < l.length) (k:ShsT ZlE→Option γ):Zj (l.map Jx) (i:Int) ZlE k=k (Zkq l[i]):=Yj (fun _=>rfl) h k
theorem Yf {γ:Type} {l:List Req} {i:Nat} (h:i < l.length) (k:ShsT ZrZ→Option γ):Zj (l.map ZN) (i:Int) ZrZ k=k (Ztl l[i]):=Yj (fun _=>rfl) h k
theorem JZ {γ:Type} {l:List Kc} {i:Nat} (h:i < l.length) (k:ShsT Zmi→Option γ):Zj (l.map Zh) (i:Int) Zmi k=k (ZkR l[i]):=Yj (fun _=>rfl) h k
theorem Zo {γ:Type} {l:List Zx} {i:Nat} (h:i < l.length) (k:ShsT Zc3→Option γ):Zj (l.map Ze) (i:Int) Zc3 k=k (Yg l[i]):=Yj (fun _=>rfl) h k
theorem J6 {γ:Type} {l:List ZcA} {i:Nat} (h:i < l.length) (k:(Int×Int×Int×Int)→Option γ):Zj (l.map Zm) (i:Int) [.int .i64,.int .i64,.int .i64,.int .i64] k=k (l[i].region,l[i].op.core,l[i].op.op,l[i].op.part):=Yj (sh:=[.int .i64,.int .i64,.int .i64,.int .i64]) (v:=fun x=>(x.region,x.op.core,x.op.op,x.op.part)) (fun _=>rfl) h k
theorem YC {γ:Type} {l:List Ans} {i:Nat} (h:i < l.length) (k:(Int×Int)→Option γ):Zj (l.map ZS) (i:Int) [.int .i64,.int .i64] k=k (l[i].op,l[i].err):=Yj (sh:=[.int .i64,.int .i64]) (v:=fun x=>(x.op,x.err)) (fun _=>rfl) h k
theorem Ki {γ:Type} {l:List ZfT} {i:Nat} (h:i < l.length) (k:(Int×Int)→Option γ):Zj (l.map JC) (i:Int) [.int .i64,.int .i64] k=k (l[i].region,l[i].to):=Yj (sh:=[.int .i64,.int .i64]) (v:=fun x=>(x.region,x.to)) (fun _=>rfl) h k
theorem Zal {γ:Type} {l:List Id} {i:Nat} (h:i < l.length) (k:(Int×Int×Int)→Option γ):Zj (Zc l) (i:Int) [.int .i64,.int .i64,.int .i64] k=k (l[i].core,l[i].op,l[i].part):=Yj (f:=idc) (sh:=[.int .i64,.int .i64,.int .i64]) (v:=fun x=>(x.core,x.op,x.part)) (fun _=>rfl) h k
theorem ZT {γ:Type} {l:List Int} {i:Nat} (h:i < l.length) (k:Int→Option γ):Zj (Za l) (i:Int) [.int .i64] k=k l[i]:=Yj (f:=Wf) (sh:=[.int .i64]) (v:=fun x=>x) (fun _=>rfl) h k
theorem Zbs (i:Id):(⟨i.core,i.op,i.part⟩:Id)=i:=rfl
end Go.Proofs.YtjldbnbdcmfbmaaGreat
end

section
namespace Go.Proofs.YtjldbnbdcmfbmaaGreat
open Go Go.AM
set_option linter.unusedSimpArgs false
set_option linter.unusedVariables false
set_option maxRecDepth 100000
def Z5 (z:Int):Bool:=decide (0≤z∧z < 32)
def J0 (z:Int):Bool:=decide (0≤z∧z < 16)
def Zbq (z:Int):Bool:=decide (0≤z∧z < 64)
def ZdH (z:Int):Bool:=decide (0≤z∧z≤99)
def Zdq (i:Id):Bool:=K3 i&&decide (i.part=0)
theorem s34 (z:Int):g34 z=some (Z5 z):=by
 rw [ZuL]
 repeat' split
 all_goals (refine congrArg some ?_;rw [Zs];simp only [Z5,CQ] at *; omega)
theorem s89 (z:Int):g89 z=some (J0 z):=by
 rw [Zur]
 repeat' split
 all_goals (refine congrArg some ?_;rw [Zs];simp only [J0,CQ] at *; omega)
theorem s96 (z:Int):g96 z=some (Zbq z):=by
 rw [Zvu]
 repeat' split
 all_goals (refine congrArg some ?_;rw [Zs];simp only [Zbq,CQ] at *; omega)
theorem s92 (z:Int):g92 z=some (ZdH z):=by
 rw [Zuu]
 repeat' split
 all_goals (refine congrArg some ?_;rw [Zs];simp only [ZdH,CQ] at *; omega)
theorem s91 (i:Id):g91 i.core i.op i.part=some (Zdq i):=by
 rw [Zv6,s99,Option.bind_some,Zbs]
 repeat' split
 all_goals (refine congrArg some ?_;rw [Zs];simp only [Zdq,CQ] at *; grind)
theorem ZA7 {l m:List Id} (hl:l.length < 2^63) (h:l.length=m.length):Zck ZE (Zc l) (Zc m) (l.length:Int) 0=some (decide (l=m)):=by
 have:=Jp (F:=fun k i=>Zck k (Zc l) (Zc m) (l.length:Int) i) (n:=l.length) (fin:=some true) (bad:=some false) (fun i=>decide (l[i]? = m[i]?)) hl 0 (by omega)
  (fun k i _ hi=>by
   have hm:i < m.length:=by omega
   show Zck (k+1) _ _ _ _=_
   rw [ZgJ,if_pos (Jg hi),Zal hi,Zal hm,Jd hi hl]
   rw [List.getElem?_eq_getElem hi,List.getElem?_eq_getElem hm]
   by_cases he:l[i]=m[i]
   ·rw [if_neg (by rw [Bool.not_eq_true',← Bool.not_eq_true,Yn];exact fun h=>h he),if_pos (by simp [he])]
   ·rw [if_pos (by rw [Bool.not_eq_true',← Bool.not_eq_true,Yn];exact he),if_neg (by simp [he])])
  (fun k i hi=>by show Zck (k+1) _ _ _ _=_;rw [ZgJ,if_neg (Jh hi)])
 refine this.trans ?_
 have e:(List.range' 0 (l.length-0)).all (fun i=>decide (l[i]? = m[i]?))=decide (l=m):=by
  rw [Zs,List.all_eq_true,decide_eq_true_eq]
  constructor
  ·intro hh
   refine List.ext_getElem? fun i=>?_
   by_cases hi:i < l.length
   ·exact of_decide_eq_true (hh i (by simp [List.mem_range',hi]))
   ·rw [List.getElem?_eq_none (by omega),List.getElem?_eq_none (by omega)]
  ·rintro rfl i _
   exact decide_eq_true rfl
 rw [e]
 cases decide (l=m)<;>rfl
theorem ZCf (l m:List Id) (hl:l.length < 2^63):Zxt (Zc l) (Zc m)=some (decide (l=m)):=by
 rw [ZsT,ZY,ZY]
 by_cases h:l.length=m.length
 ·rw [if_neg (by simp [cop,h]),ZA7 hl h]
 ·rw [if_pos (by simp [cop];omega)]
  have:¬ l=m:=fun he=>h (by rw [he])
  simp [this]
def KB (a b:Yi):Bool:=decide (a.id=b.id)&&decide (a.cap.kind=b.cap.kind∧a.cap.base=b.cap.base∧a.cap.bits=b.cap.bits∧a.cap.rights=b.cap.rights∧a.cap.width=b.cap.width∧a.cap.level=b.cap.level∧a.cap.device=b.cap.device)&&decide (a.path=b.path)
theorem Zfj (a b:Cap):(((cop .eql a.kind b.kind)&&((cop .eql a.base b.base)&&((cop .eql a.bits b.bits)&&((cop .eql a.rights b.rights)&&((cop .eql a.width b.width)&&((cop .eql a.level b.level)&&((a.device == b.device)&&true)))))))=true)↔(a.kind=b.kind∧a.base=b.base∧a.bits=b.bits∧a.rights=b.rights∧a.width=b.width∧a.level=b.level∧a.device=b.device):=by
 simp only [CQ,beq_iff_eq,and_true]
theorem ZBD (a b:Yi) (ha:a.path.length < 2^63):Zqq a.id.core a.id.op a.id.part (Zc a.path) a.cap.kind a.cap.base a.cap.bits a.cap.rights a.cap.width a.cap.level a.cap.device b.id.core b.id.op b.id.part (Zc b.path) b.cap.kind b.cap.base b.cap.bits b.cap.rights b.cap.width b.cap.level b.cap.device=some (KB a b):=by
 rw [Zrg,ZCf _ _ ha,Option.bind_some]
 unfold KB
 refine JE (fun h=>?_) fun h=>?_
 ·rw [Yn] at h
  refine JE (fun h2=>?_) fun h2=>?_
  ·rw [Zfj] at h2
   rw [decide_eq_true (show a.id=b.id from h),decide_eq_true h2];rfl
  ·rw [Zfj] at h2
   rw [decide_eq_true (show a.id=b.id from h),decide_eq_false h2];rfl
 ·rw [Yn] at h
  rw [decide_eq_false (show ¬ a.id=b.id from h)];rfl
theorem Zo7 (a b:Yi) (ha:a.path.length < 2^63) (hb:b.path.length < 2^63):Ztc a.id.core a.id.op a.id.part (Zc a.path) a.cap.kind a.cap.base a.cap.bits a.cap.rights a.cap.width a.cap.level a.cap.device b.id.core b.id.op b.id.part (Zc b.path) b.cap.kind b.cap.base b.cap.bits b.cap.rights b.cap.width b.cap.level b.cap.device=some (KB a b):=by
 rw [ZrH,s69 _ _ ha hb,Option.bind_some]
 unfold KB
 refine JE (fun h=>?_) fun h=>?_
 ·rw [Yn] at h
  refine JE (fun h2=>?_) fun h2=>?_
  ·rw [Zfj] at h2
   rw [decide_eq_true (show a.id=b.id from h),decide_eq_true h2];rfl
  ·rw [Zfj] at h2
   rw [decide_eq_true (show a.id=b.id from h),decide_eq_false h2];rfl
 ·rw [Yn] at h
  rw [decide_eq_false (show ¬ a.id=b.id from h)];rfl
def Z4:Yi:=⟨⟨0,0,0⟩,[],⟨0,0,0,0,0,0,false⟩⟩
theorem Zso (a:Yi) (ha:a.path.length < 2^63):Zqq a.id.core a.id.op a.id.part (Zc a.path) a.cap.kind a.cap.base a.cap.bits a.cap.rights a.cap.width a.cap.level a.cap.device 0 0 0 E0 0 0 0 0 0 0 false=some (KB a Z4):=ZBD a Z4 ha
def KQ (r:Req):Bool:=Zdq r.id&&decide (1≤r.call.kind∧r.call.kind≤6)&&J0 r.region&&decide (r.width=32∨r.width=39)&&(if r.call.kind=1 then KB r.src Z4 else ZO r.src)
theorem s90 (r:Req) (hr:r.src.path.length < 2^63):g90 r.id.core r.id.op r.id.part r.call.kind r.call.slot r.call.dest r.call.core r.call.mask r.call.object r.call.bits r.call.level r.call.offset r.call.count r.call.index r.call.addr r.region r.width r.src.id.core r.src.id.op r.src.id.part (Zc r.src.path) r.src.cap.kind r.src.cap.base r.src.cap.bits r.src.cap.rights r.src.cap.width r.src.cap.level r.src.cap.device=some (KQ r):=by
 rw [Zt8]
 simp only [s91,s89,Zso _ hr,s95 _ hr,Option.bind_some]
 repeat' split
 all_goals (refine congrArg some ?_;rw [Zs];simp only [KQ,CQ] at *; grind)
end Go.Proofs.YtjldbnbdcmfbmaaGreat
end

section
namespace Go.Proofs.YtjldbnbdcmfbmaaGreat
open Go Go.AM
set_option linter.unusedSimpArgs false
set_option linter.unusedVariables false
set_option maxRecDepth 100000
theorem ZnZ {γ:Type} {F:Nat→Int→Option γ} {n:Nat} {miss:γ} (hit:Nat→γ) (p:Nat→Bool) (hn:n < 2^63)
  (step:∀ k i:Nat,i < n→F (k+1) (i:Int)=if p i=true then some (hit i) else F k ((i+1:Nat):Int))
  (last:∀ k i:Nat,n≤i→F (k+1) (i:Int)=some miss) :
  (∃ i,i < n∧p i=true∧(∀ j,j < i→p j=false)∧F ZE 0=some (hit i))∨((∀ j,j < n→p j=false)∧F ZE 0=some miss):=by
 have key:∀ (j i fuel:Nat),n≤i+j→j < fuel→(∃ m,i≤m∧m < n∧p m=true∧(∀ j,i≤j→j < m→p j=false)∧F fuel (i:Int)=some (hit m))∨((∀ j,i≤j→j < n→p j=false)∧F fuel (i:Int)=some miss):=by
  intro j
  induction j with
  | zero =>
   intro i fuel h hf
   obtain ⟨f,rfl⟩:∃ f,fuel=f+1:=⟨fuel-1,by omega⟩
   exact .inr ⟨fun j h1 h2=>by omega,last f i (by omega)⟩
  | succ j ih =>
   intro i fuel h hf
   obtain ⟨f,rfl⟩:∃ f,fuel=f+1:=⟨fuel-1,by omega⟩
   by_cases hi:i < n
   ·rw [step f i hi]
    cases hp:p i with
    | true => exact .inl ⟨i, Nat.le_refl _, hi, hp, fun j h1 h2 => by omega, if_pos rfl⟩
    | false =>
     rw [if_neg Bool.false_ne_true]
     rcases ih (i+1) f (by omega) (by omega) with ⟨m,h1,h2,h3,h4,h5⟩ | ⟨h1,h2⟩
     ·refine .inl ⟨m,by omega,h2,h3,fun j h6 h7=>?_,h5⟩
      by_cases he:j=i
      ·rw [he];exact hp
      ·exact h4 j (by omega) h7
     ·refine .inr ⟨fun j h6 h7=>?_,h2⟩
      by_cases he:j=i
      ·rw [he];exact hp
      ·exact h1 j (by omega) h7
   ·exact .inr ⟨fun j h1 h2=>by omega,last f i (by omega)⟩
 rcases key n 0 ZE (by omega) (by have:=Wv hn;omega) with ⟨m,_,h2,h3,h4,h5⟩ | ⟨h1,h2⟩
 ·exact .inl ⟨m,h2,h3,fun j hj=>h4 j (by omega) hj,h5⟩
 ·exact .inr ⟨fun j hj=>h1 j (by omega) hj,h2⟩
def zid:Id:=⟨0,0,0⟩
def ZnS (i:Id) (t:Kc):Bool:=!decide (t.node.id=zid)&&decide (t.node.id=i)
def Zcu (s:Kc):Bool:=decide (0≤s.op∧s.op≤1073741824)&&(if s.node.id=zid then KB s.node Z4&&decide (s.lock=zid) else ZO s.node&&(decide (s.lock=zid)||Zdq s.lock))
def ZdK (l:List Kc) (i:Nat):Bool:=match l[i]? with | some s=>!((l.take i).any (ZnS s.node.id)) | none=>true
def VU (l:List Kc):Bool:=decide (l.length≤64)&&(List.range' 0 l.length).all (fun i=>atB Zcu l i&&ZdK l i)
theorem VL (a b c:Int):((cop .eql a 0&&(cop .eql b 0&&(cop .eql c 0&&true)))=true)↔((⟨a,b,c⟩:Id)=zid):=Yn a b c 0 0 0
theorem ZBw (s:Kc) (hs:s.node.path.length < 2^63):Zzb s.node.id.core s.node.id.op s.node.id.part (Zc s.node.path) s.node.cap.kind s.node.cap.base s.node.cap.bits s.node.cap.rights s.node.cap.width s.node.cap.level s.node.cap.device s.op s.lock.core s.lock.op s.lock.part=some (Zcu s):=by
 rw [Zra]
 simp only [Znf,Zso _ hs,s95 _ hs,s99,Option.bind_some,VL,Zbs]
 have e:cop .eql s.lock.part 0=decide (s.lock.part=0):=rfl
 have e2:((cop .eql s.lock.core 0)&&((cop .eql s.lock.op 0)&&((cop .eql s.lock.part 0)&&true)))=decide (s.lock=zid):=by
  rw [Zs,VL,Zbs,decide_eq_true_eq]
 simp only [e2]
 repeat' split
 all_goals (refine congrArg some ?_;rw [Zs];simp only [Zcu,Zdq,CQ] at *; grind)
theorem ZcC (l:List Kc):(l.map Zh).length=l.length:=List.length_map _
theorem ZBY (l:List Kc) (hl:l.length < 2^63) (a b c:Int):∃ r,Zz7 (l.map Zh) a b c=some (r,l.any (ZnS ⟨a,b,c⟩)):=by
 rw [Zq1,ZcC]
 have:=ZnZ (F:=fun k i=>Zcz k a b c (l.map Zh) (l.length:Int) i) (n:=l.length) (miss:=((0:Int),false)) (fun i=>((i:Int),true)) (atB (ZnS ⟨a,b,c⟩) l) hl
  (fun k i hi=>by
   show Zcz (k+1) _ _ _ _ _ _=_
   rw [ZgV,if_pos (Jg hi)]
   refine (JZ hi _).trans ?_
   simp only [ZkR,d2,d4,d8,d16]
   rw [Znf,Option.bind_some,Jd hi hl,J7 _ hi]
   generalize l[i]=t
   simp only [VL,Yn,Zbs,Bool.not_eq_true']
   unfold ZnS
   by_cases h1:t.node.id=zid
   ·rw [if_neg (by simp only [Bool.not_eq_false];rw [VL];exact h1),if_neg (by simp [h1])]
   ·rw [if_pos (by rw [← Bool.not_eq_true,VL];exact h1)]
    by_cases h2:t.node.id=⟨a,b,c⟩
    ·rw [if_pos (by exact h2),if_pos (by simp [h1,h2];exact fun h=>h1 (h2.trans h))]
    ·rw [if_neg (by exact h2),if_neg (by simp [h1,h2])])
  (fun k i hi=>by show Zcz (k+1) _ _ _ _ _ _=_;rw [ZgV,if_neg (Jh hi)])
 rcases this with ⟨i,h1,h2,h3,h4⟩ | ⟨h1,h2⟩
 ·refine ⟨i,?_⟩
  have e:l.any (ZnS ⟨a,b,c⟩)=true:=by
   rw [J7 _ h1] at h2
   exact List.any_eq_true.2 ⟨l[i],List.getElem_mem h1,h2⟩
  rw [e];exact h4
 ·refine ⟨0,?_⟩
  have e:l.any (ZnS ⟨a,b,c⟩)=false:=by
   rw [List.any_eq_false]
   intro x hx
   obtain ⟨j,hj,rfl⟩:=List.getElem_of_mem hx
   have:=h1 j hj
   rw [J7 _ hj] at this
   rw [this];exact Bool.false_ne_true
  rw [e];exact h2
theorem ZCb (l:List Kc) (hl:l.length < 2^63) (hp:∀ s∈l,s.node.path.length < 2^63):Zxz (l.map Zh)=some (VU l):=by
 rw [ZsM,ZcC]
 unfold VU
 refine JE (fun h=>?_) fun h=>?_
 ·rw [decide_eq_false (by simp only [CQ] at h;omega),Bool.false_and]
 ·rw [decide_eq_true (by simp only [CQ] at h;omega),Bool.true_and]
  have:=Jp (F:=fun k i=>Zee k (l.map Zh) (l.map Zh) (l.length:Int) i) (n:=l.length) (fin:=some true) (bad:=some false) (fun i=>atB Zcu l i&&ZdK l i) hl 0 (by omega)
   (fun k i _ hi=>by
    show Zee (k+1) _ _ _ _=_
    rw [Zg2,if_pos (Jg hi)]
    refine (JZ hi _).trans ?_
    simp only [ZkR,d2,d4,d8,d16]
    obtain ⟨r,hr⟩:=ZBY (l.take i) (by rw [List.length_take];omega) l[i].node.id.core l[i].node.id.op l[i].node.id.part
    have hu:ZdK l i = !((l.take i).any (ZnS l[i].node.id)):=by unfold ZdK;rw [List.getElem?_eq_getElem hi]
    rw [ZBw _ (hp _ (List.getElem_mem hi)),Option.bind_some,Zl (by omega),Zl (by rw [ZcC];omega),Int.toNat_natCast,← List.map_take,hr,Option.bind_some,Jd hi hl,J7 _ hi,hu,Zbs]
    cases Zcu l[i]<;>cases (l.take i).any (ZnS l[i].node.id)<;>rfl)
   (fun k i hi=>by show Zee (k+1) _ _ _ _=_;rw [Zg2,if_neg (Jh hi)])
  refine this.trans ?_
  rw [Nat.sub_zero]
  cases (List.range' 0 l.length).all (fun i=>atB Zcu l i&&ZdK l i)<;>rfl
end Go.Proofs.YtjldbnbdcmfbmaaGreat
end

section
namespace Go.Proofs.YtjldbnbdcmfbmaaGreat
open Go Go.AM
set_option linter.unusedSimpArgs false
set_option linter.unusedVariables false
set_option maxRecDepth 100000
theorem Zlz {j:Nat} (h:j+1 < 2^63):iop .sub .i64 ((j+1:Nat):Int) 1=(j:Int):=by
 rw [Zh2 (by omega) (by omega)];omega
def Zw6 (a b:Id):Bool:=Zs5 a.core a.op a.part b.core b.op b.part
theorem s82 (a b c d e f:Int):g82 a b c d e f=some (Zs5 a b c d e f):=by
 rw [Zvv]
 repeat' split
 all_goals (refine congrArg some ?_;rw [Zs];simp only [Zs5,CQ] at *; omega)
def KY (m:ZcA):Bool:=J0 m.region&&Zdq m.op
def Zbi (a:Ans):Bool:=decide (1≤a.op∧a.op≤1073741824)&&ZdH a.err
def ZaL (e:Zx):Bool:=Z5 e.core&&Zbq e.slot&&ZO e.node
def ltp:Req→Req→Bool:=fun a b=>Zw6 a.id b.id
theorem ZCn (x:Req) (hx:x.src.path.length < 2^63):ZxS x.id.core x.id.op x.id.part x.call.kind x.call.slot x.call.dest x.call.core x.call.mask x.call.object x.call.bits x.call.level x.call.offset x.call.count x.call.index x.call.addr x.region x.width x.src.id.core x.src.id.op x.src.id.part (Zc x.src.path) x.src.cap.kind x.src.cap.base x.src.cap.bits x.src.cap.rights x.src.cap.width x.src.cap.level x.src.cap.device=some (!KQ x):=by
 rw [ZsE,s90 x hx,Option.bind_some]
theorem Zpz (l:List Req) (hl:l.length < 2^63) (hp:∀ x∈l,x.src.path.length < 2^63):∃ r,ZeL (l.map ZN)=some r∧cop .geq r 0 = !(l.all KQ):=by
 rw [ZhZ,List.length_map]
 have:=YB (F:=fun k i=>Kt k (l.map ZN) (l.length:Int) i) (n:=l.length) (fun i=>!atB KQ l i) hl
  (fun k i hi=>by
   show Kt (k+1) _ _ _=_
   rw [ZaY,if_pos (Jg hi)]
   refine (Yf hi _).trans ?_
   simp only [Ztl,d2,d4,d8,d16]
   rw [ZCn l[i] (hp _ (List.getElem_mem hi)),Option.bind_some,Jd hi hl,J7 _ hi])
  (fun k i hi=>by show Kt (k+1) _ _ _=_;rw [ZaY,if_neg (Jh hi)])
 rw [VG] at this
 exact this
theorem Zn9 (l:List Req) (hl:l.length < 2^63) (hp:∀ x∈l,x.src.path.length < 2^63):Zfd (l.map ZN)=some (!(l.all KQ)):=by
 obtain ⟨r,h1,h2⟩:=Zpz l hl hp
 rw [ZhS,h1,Option.bind_some,h2]
theorem ZAZ (l:List Req) {j:Nat} (hj:j+1 < l.length):ZyS (j:Int) ((j+1:Nat):Int) (l.map ZN)=some (ltp l[j] l[j+1],l.map ZN):=by
 rw [Zr4]
 refine (Yf (show j < l.length by omega) _).trans ?_
 refine (Yf hj _).trans ?_
 simp only [Ztl,d2,d4,d8,d16]
 rw [ZAN,Option.bind_some];rfl
theorem ZoP (l:List Req) (hl:l.length < 2^63):Zff (l.length:Int) (l.map ZN)=some (Vu ltp l,l.map ZN):=by
 rw [Zih]
 have:=Jp (F:=fun k i=>Kl k (l.length:Int) i (l.map ZN)) (n:=l.length) (fin:=some (true,l.map ZN)) (bad:=some (false,l.map ZN)) (Zhc ltp l) hl 1 (by omega)
  (fun k i h1 hi=>by
   obtain ⟨j,rfl⟩:∃ j,i=j+1:=⟨i-1,by omega⟩
   show Kl (k+1) _ _ _=_
   rw [WW,if_pos (Jg hi),Zlz (by omega),ZAZ l hi,Option.bind_some,Jd hi hl,WT _ hi]
   cases ltp l[j] l[j+1]<;>rfl)
  (fun k i hi=>by show Kl (k+1) _ _ _=_;rw [WW,if_neg (Jh hi)])
 rw [ZuI] at this
 refine Eq.trans this ?_
 cases Vu ltp l<;>rfl
theorem ZBq (l:List Req) (hl:l.length < 2^63) (hp:∀ x∈l,x.src.path.length < 2^63):Zzy (l.map ZN)=some (l.all KQ&&Vu ltp l):=by
 rw [ZqH,Zn9 l hl hp,Option.bind_some,List.length_map,ZoP l hl,Option.bind_some]
 cases l.all KQ<;>rfl
def ltm:ZcA→ZcA→Bool:=fun a b=>decide (a.region < b.region)
theorem ZB8 (x:ZcA):ZxZ x.region x.op.core x.op.op x.op.part=some (!KY x):=by
 rw [ZrO]
 simp only [s89,s91,Option.bind_some]
 repeat' split
 all_goals (refine congrArg some ?_;rw [Zs];simp only [KY,CQ] at * <;> grind)
theorem ZpI (l:List ZcA) (hl:l.length < 2^63):∃ r,ZfO (l.map Zm)=some r∧cop .geq r 0 = !(l.all KY):=by
 rw [ZiF,List.length_map]
 have:=YB (F:=fun k i=>Kj k (l.map Zm) (l.length:Int) i) (n:=l.length) (fun i=>!atB KY l i) hl
  (fun k i hi=>by
   show Kj (k+1) _ _ _=_
   rw [Zax,if_pos (Jg hi)]
   refine (J6 hi _).trans ?_
   simp only [d2,d4,d8,d16]
   rw [ZB8 l[i],Option.bind_some,Jd hi hl,J7 _ hi])
  (fun k i hi=>by show Kj (k+1) _ _ _=_;rw [Zax,if_neg (Jh hi)])
 rw [VG] at this
 exact this
theorem Zpy (l:List ZcA) (hl:l.length < 2^63):ZeU (l.map Zm)=some (!(l.all KY)):=by
 obtain ⟨r,h1,h2⟩:=ZpI l hl
 rw [ZiL,h1,Option.bind_some,h2]
theorem ZBr (l:List ZcA) {j:Nat} (hj:j+1 < l.length):ZxG (j:Int) ((j+1:Nat):Int) (l.map Zm)=some (ltm l[j] l[j+1],l.map Zm):=by
 rw [ZrU]
 refine (J6 (show j < l.length by omega) _).trans ?_
 refine (J6 hj _).trans ?_
 simp only [d2,d4,d8,d16]
 rfl
theorem ZnW (l:List ZcA) (hl:l.length < 2^63):Ze1 (l.length:Int) (l.map Zm)=some (Vu ltm l,l.map Zm):=by
 rw [ZhW]
 have:=Jp (F:=fun k i=>Ku k (l.length:Int) i (l.map Zm)) (n:=l.length) (fin:=some (true,l.map Zm)) (bad:=some (false,l.map Zm)) (Zhc ltm l) hl 1 (by omega)
  (fun k i h1 hi=>by
   obtain ⟨j,rfl⟩:∃ j,i=j+1:=⟨i-1,by omega⟩
   show Ku (k+1) _ _ _=_
   rw [ZaF,if_pos (Jg hi),Zlz (by omega),ZBr l hi,Option.bind_some,Jd hi hl,WT _ hi]
   cases ltm l[j] l[j+1]<;>rfl)
  (fun k i hi=>by show Ku (k+1) _ _ _=_;rw [ZaF,if_neg (Jh hi)])
 rw [ZuI] at this
 refine Eq.trans this ?_
 cases Vu ltm l<;>rfl
theorem ZBx (l:List ZcA) (hl:l.length < 2^63):ZzT (l.map Zm)=some (l.all KY&&Vu ltm l):=by
 rw [ZqU,Zpy l hl,Option.bind_some,List.length_map,ZnW l hl,Option.bind_some]
 cases l.all KY<;>rfl
def lta:Ans→Ans→Bool:=fun a b=>decide (a.op < b.op)
theorem ZBU (x:Ans):Zyq x.op x.err=some (!Zbi x):=by
 rw [ZrE]
 simp only [s92,Option.bind_some]
 repeat' split
 all_goals (refine congrArg some ?_;rw [Zs];simp only [Zbi,CQ] at * <;> grind)
theorem ZoQ (l:List Ans) (hl:l.length < 2^63):∃ r,ZfP (l.map ZS)=some r∧cop .geq r 0 = !(l.all Zbi):=by
 rw [ZhX,List.length_map]
 have:=YB (F:=fun k i=>Ks k (l.map ZS) (l.length:Int) i) (n:=l.length) (fun i=>!atB Zbi l i) hl
  (fun k i hi=>by
   show Ks (k+1) _ _ _=_
   rw [W8,if_pos (Jg hi)]
   refine (YC hi _).trans ?_
   simp only [d2,d4,d8,d16]
   rw [ZBU l[i],Option.bind_some,Jd hi hl,J7 _ hi])
  (fun k i hi=>by show Ks (k+1) _ _ _=_;rw [W8,if_neg (Jh hi)])
 rw [VG] at this
 exact this
theorem ZoD (l:List Ans) (hl:l.length < 2^63):ZeG (l.map ZS)=some (!(l.all Zbi)):=by
 obtain ⟨r,h1,h2⟩:=ZoQ l hl
 rw [Zix,h1,Option.bind_some,h2]
theorem ZBp (l:List Ans) {j:Nat} (hj:j+1 < l.length):ZzP (j:Int) ((j+1:Nat):Int) (l.map ZS)=some (lta l[j] l[j+1],l.map ZS):=by
 rw [ZsO]
 refine (YC (show j < l.length by omega) _).trans ?_
 refine (YC hj _).trans ?_
 simp only [d2,d4,d8,d16]
 rfl
theorem ZoW (l:List Ans) (hl:l.length < 2^63):Zfh (l.length:Int) (l.map ZS)=some (Vu lta l,l.map ZS):=by
 rw [ZhR]
 have:=Jp (F:=fun k i=>Ke k (l.length:Int) i (l.map ZS)) (n:=l.length) (fin:=some (true,l.map ZS)) (bad:=some (false,l.map ZS)) (Zhc lta l) hl 1 (by omega)
  (fun k i h1 hi=>by
   obtain ⟨j,rfl⟩:∃ j,i=j+1:=⟨i-1,by omega⟩
   show Ke (k+1) _ _ _=_
   rw [ZaI,if_pos (Jg hi),Zlz (by omega),ZBp l hi,Option.bind_some,Jd hi hl,WT _ hi]
   cases lta l[j] l[j+1]<;>rfl)
  (fun k i hi=>by show Ke (k+1) _ _ _=_;rw [ZaI,if_neg (Jh hi)])
 rw [ZuI] at this
 refine Eq.trans this ?_
 cases Vu lta l<;>rfl
theorem ZB4 (l:List Ans) (hl:l.length < 2^63):Zz9 (l.map ZS)=some (l.all Zbi&&Vu lta l):=by
 rw [Zsg,ZoD l hl,Option.bind_some,List.length_map,ZoW l hl,Option.bind_some]
 cases l.all Zbi<;>rfl
def lte:Zx→Zx→Bool:=fun a b=>Zw6 a.node.id b.node.id
theorem ZA1 (x:Zx) (hx:x.node.path.length < 2^63):ZxH x.core x.slot x.node.id.core x.node.id.op x.node.id.part (Zc x.node.path) x.node.cap.kind x.node.cap.base x.node.cap.bits x.node.cap.rights x.node.cap.width x.node.cap.level x.node.cap.device=some (!ZaL x):=by
 rw [ZsW]
 simp only [s34,s96,s95 _ hx,Option.bind_some]
 repeat' split
 all_goals (refine congrArg some ?_;rw [Zs];simp only [ZaL,CQ] at * <;> grind)
theorem Zpm (l:List Zx) (hl:l.length < 2^63) (hp:∀ x∈l,x.node.path.length < 2^63):∃ r,ZfR (l.map Ze)=some r∧cop .geq r 0 = !(l.all ZaL):=by
 rw [Ziu,List.length_map]
 have:=YB (F:=fun k i=>Kg k (l.map Ze) (l.length:Int) i) (n:=l.length) (fun i=>!atB ZaL l i) hl
  (fun k i hi=>by
   show Kg (k+1) _ _ _=_
   rw [Zab,if_pos (Jg hi)]
   refine (Zo hi _).trans ?_
   simp only [Yg,d2,d4,d8,d16]
   rw [ZA1 l[i] (hp _ (List.getElem_mem hi)),Option.bind_some,Jd hi hl,J7 _ hi])
  (fun k i hi=>by show Kg (k+1) _ _ _=_;rw [Zab,if_neg (Jh hi)])
 rw [VG] at this
 exact this
theorem Zn3 (l:List Zx) (hl:l.length < 2^63) (hp:∀ x∈l,x.node.path.length < 2^63):Zfu (l.map Ze)=some (!(l.all ZaL)):=by
 obtain ⟨r,h1,h2⟩:=Zpm l hl hp
 rw [ZiN,h1,Option.bind_some,h2]
theorem ZBc (l:List Zx) {j:Nat} (hj:j+1 < l.length):ZyP (j:Int) ((j+1:Nat):Int) (l.map Ze)=some (lte l[j] l[j+1],l.map Ze):=by
 rw [Zrq]
 refine (Zo (show j < l.length by omega) _).trans ?_
 refine (Zo hj _).trans ?_
 simp only [Yg,d2,d4,d8,d16]
 rw [ZAN,Option.bind_some];rfl
theorem Zoo (l:List Zx) (hl:l.length < 2^63):ZfQ (l.length:Int) (l.map Ze)=some (Vu lte l,l.map Ze):=by
 rw [Zij]
 have:=Jp (F:=fun k i=>Ko k (l.length:Int) i (l.map Ze)) (n:=l.length) (fin:=some (true,l.map Ze)) (bad:=some (false,l.map Ze)) (Zhc lte l) hl 1 (by omega)
  (fun k i h1 hi=>by
   obtain ⟨j,rfl⟩:∃ j,i=j+1:=⟨i-1,by omega⟩
   show Ko (k+1) _ _ _=_
   rw [Zak,if_pos (Jg hi),Zlz (by omega),ZBc l hi,Option.bind_some,Jd hi hl,WT _ hi]
   cases lte l[j] l[j+1]<;>rfl)
  (fun k i hi=>by show Ko (k+1) _ _ _=_;rw [Zak,if_neg (Jh hi)])
 rw [ZuI] at this
 refine Eq.trans this ?_
 cases Vu lte l<;>rfl
theorem ZBb (l:List Zx) (hl:l.length < 2^63) (hp:∀ x∈l,x.node.path.length < 2^63):ZyH (l.map Ze)=some (l.all ZaL&&Vu lte l):=by
 rw [Zqr,Zn3 l hl hp,Option.bind_some,List.length_map,Zoo l hl,Option.bind_some]
 cases l.all ZaL<;>rfl
theorem ZBE (x:Id):ZxD x.core x.op x.part=some (!Zdq x):=by
 rw [Zrr,s91,Option.bind_some]
theorem Zo9 (l:List Id) (hl:l.length < 2^63):∃ r,ZeN (Zc l)=some r∧cop .geq r 0 = !(l.all Zdq):=by
 rw [ZhY,ZY]
 have:=YB (F:=fun k i=>Km k (Zc l) (l.length:Int) i) (n:=l.length) (fun i=>!atB Zdq l i) hl
  (fun k i hi=>by
   show Km (k+1) _ _ _=_
   rw [W9,if_pos (Jg hi)]
   refine (Zal hi _).trans ?_
   dsimp only
   rw [ZBE l[i],Option.bind_some,Jd hi hl,J7 _ hi])
  (fun k i hi=>by show Km (k+1) _ _ _=_;rw [W9,if_neg (Jh hi)])
 rw [VG] at this
 exact this
theorem ZsQ (l:List Id) (hl:l.length < 2^63):ZiA (Zc l)=some (!(l.all Zdq)):=by
 obtain ⟨r,h1,h2⟩:=Zo9 l hl
 rw [Zle,h1,Option.bind_some,h2]
def Yy (s:Jv):Bool:=VU s.slots&&(s.pending.all KQ&&Vu ltp s.pending)&&(s.marks.all KY&&Vu ltm s.marks)&&(s.answers.all Zbi&&Vu lta s.answers)&&(s.entries.all ZaL&&Vu lte s.entries)&&s.commits.all Zdq
structure Jv.Fits (s:Jv):Prop where
 slots:s.slots.length < 2^63
 pending:s.pending.length < 2^63
 marks:s.marks.length < 2^63
 answers:s.answers.length < 2^63
 entries:s.entries.length < 2^63
 commits:s.commits.length < 2^63
 slot:∀ x∈s.slots,x.node.path.length < 2^63
 req:∀ x∈s.pending,x.src.path.length < 2^63
 entry:∀ x∈s.entries,x.node.path.length < 2^63
theorem Zz4 (s:Jv) (h:s.Fits):ZtB (s.slots.map Zh) (s.pending.map ZN) (s.marks.map Zm) (s.answers.map ZS) (s.entries.map Ze) (Zc s.commits)=some (Yy s):=by
 rw [ZqA,ZCb _ h.slots h.slot,Option.bind_some,ZBq _ h.pending h.req,Option.bind_some,ZBx _ h.marks,Option.bind_some,ZB4 _ h.answers,Option.bind_some,ZBb _ h.entries h.entry,Option.bind_some,ZsQ _ h.commits,Option.bind_some]
 unfold Yy
 cases VU s.slots<;>cases (s.pending.all KQ&&Vu ltp s.pending)<;>cases (s.marks.all KY&&Vu ltm s.marks)<;>cases (s.answers.all Zbi&&Vu lta s.answers)<;>cases (s.entries.all ZaL&&Vu lte s.entries)<;>cases s.commits.all Zdq<;>rfl
end Go.Proofs.YtjldbnbdcmfbmaaGreat
end

section
namespace Go.Proofs.YtjldbnbdcmfbmaaGreat
open Go Go.AM
set_option linter.unusedSimpArgs false
set_option linter.unusedVariables false
set_option maxRecDepth 100000
theorem ZAR {n:Nat} (h:n≤maxLen):n < 2^63:=by
 have:maxLen+1=2^63:=by decide
 omega
end Go.Proofs.YtjldbnbdcmfbmaaGreat
end

section
namespace Go.Proofs.YtjldbnbdcmfbmaaGreat
open Go Go.AM
set_option linter.unusedSimpArgs false
set_option linter.unusedVariables false
set_option maxRecDepth 100000
theorem ZU (l:List Int):(Za l).length=l.length:=by simp [Za]
theorem Zl8 (l:List Int) (n:Nat):(Za l).take n=Za (l.take n):=by simp [Za,List.map_take]
def YQ (z:Int):Bool:=decide (0≤z∧z≤1073741824)
def Vz (m:ZfT):Bool:=J0 m.region&&Z5 m.to
theorem s33 (z:Int):g33 z=some (YQ z):=by
 rw [Zvk]
 repeat' split
 all_goals (refine congrArg some ?_;rw [Zs];simp only [YQ,CQ] at *; omega)
theorem s94 (x:Yi) (hx:x.path.length < 2^63):g94 x.id.core x.id.op x.id.part (Zc x.path) x.cap.kind x.cap.base x.cap.bits x.cap.rights x.cap.width x.cap.level x.cap.device=some (!ZO x):=by
 rw [Zv7,s95 x hx,Option.bind_some]
theorem Zsj (l:List Yi) (hl:l.length < 2^63) (hp:∀ x∈l,x.path.length < 2^63):∃ r,Ziy (l.map Jx)=some r∧cop .geq r 0 = !(l.all ZO):=by
 rw [ZkW,List.length_map]
 have:=YB (F:=fun k i=>K0 k (l.map Jx) (l.length:Int) i) (n:=l.length) (fun i=>!atB ZO l i) hl
  (fun k i hi=>by
   show K0 (k+1) _ _ _=_
   rw [ZbB,if_pos (Jg hi)]
   refine (Kf hi _).trans ?_
   simp only [Zkq,d2,d4,d8,d16]
   rw [s94 l[i] (hp _ (List.getElem_mem hi)),Option.bind_some,Jd hi hl,J7 _ hi])
  (fun k i hi=>by show K0 (k+1) _ _ _=_;rw [ZbB,if_neg (Jh hi)])
 rw [VG] at this
 exact this
theorem Zum (l:List Yi) (hl:l.length < 2^63) (hp:∀ x∈l,x.path.length < 2^63):ZdS (l.map Jx)=some (!(l.all ZO)):=by
 obtain ⟨r,h1,h2⟩:=Zsj l hl hp
 rw [Zm5,h1,Option.bind_some,h2]
theorem s98 (x:Id):g98 x.core x.op x.part=some (!K3 x):=by
 rw [Zvp,s99,Option.bind_some,Zbs]
theorem Zrl (l:List Id) (hl:l.length < 2^63):∃ r,ZhP (Zc l)=some r∧cop .geq r 0 = !(l.all K3):=by
 rw [ZkN,ZY]
 have:=YB (F:=fun k i=>K2 k (Zc l) (l.length:Int) i) (n:=l.length) (fun i=>!atB K3 l i) hl
  (fun k i hi=>by
   show K2 (k+1) _ _ _=_
   rw [ZbE,if_pos (Jg hi)]
   refine (Zal hi _).trans ?_
   dsimp only
   rw [s98 l[i],Option.bind_some,Jd hi hl,J7 _ hi])
  (fun k i hi=>by show K2 (k+1) _ _ _=_;rw [ZbE,if_neg (Jh hi)])
 rw [VG] at this
 exact this
theorem ZuH (l:List Id) (hl:l.length < 2^63):ZjV (Zc l)=some (!(l.all K3)):=by
 obtain ⟨r,h1,h2⟩:=Zrl l hl
 rw [ZmQ,h1,Option.bind_some,h2]
theorem ZCe (x:Int):ZzX x=some (!Z5 x):=by
 rw [Zrs,s34,Option.bind_some]
theorem Zow (l:List Int) (hl:l.length < 2^63):∃ r,ZfK (Za l)=some r∧cop .geq r 0 = !(l.all Z5):=by
 rw [Zip,ZU]
 have:=YB (F:=fun k i=>Kp k (Za l) (l.length:Int) i) (n:=l.length) (fun i=>!atB Z5 l i) hl
  (fun k i hi=>by
   show Kp (k+1) _ _ _=_
   rw [ZaK,if_pos (Jg hi)]
   refine (ZT hi _).trans ?_
   skip
   rw [ZCe l[i],Option.bind_some,Jd hi hl,J7 _ hi])
  (fun k i hi=>by show Kp (k+1) _ _ _=_;rw [ZaK,if_neg (Jh hi)])
 rw [VG] at this
 exact this
theorem ZpK (l:List Int) (hl:l.length < 2^63):Zcb (Za l)=some (!(l.all Z5)):=by
 obtain ⟨r,h1,h2⟩:=Zow l hl
 rw [Zin,h1,Option.bind_some,h2]
theorem ZAY (x:Int):Zyx x=some (!Z5 x):=by
 rw [Zsh,s34,Option.bind_some]
theorem Zos (l:List Int) (hl:l.length < 2^63):∃ r,Ze7 (Za l)=some r∧cop .geq r 0 = !(l.all Z5):=by
 rw [Zh8,ZU]
 have:=YB (F:=fun k i=>Kw k (Za l) (l.length:Int) i) (n:=l.length) (fun i=>!atB Z5 l i) hl
  (fun k i hi=>by
   show Kw (k+1) _ _ _=_
   rw [Zaf,if_pos (Jg hi)]
   refine (ZT hi _).trans ?_
   skip
   rw [ZAY l[i],Option.bind_some,Jd hi hl,J7 _ hi])
  (fun k i hi=>by show Kw (k+1) _ _ _=_;rw [Zaf,if_neg (Jh hi)])
 rw [VG] at this
 exact this
theorem Zpx (l:List Int) (hl:l.length < 2^63):ZfG (Za l)=some (!(l.all Z5)):=by
 obtain ⟨r,h1,h2⟩:=Zos l hl
 rw [Zid,h1,Option.bind_some,h2]
theorem ZBR (x:ZfT):ZyE x.region x.to=some (!Vz x):=by
 rw [Zsx,s89,s34,Option.bind_some,Option.bind_some]
 unfold Vz
 cases J0 x.region<;>rfl
theorem ZoK (l:List ZfT) (hl:l.length < 2^63):∃ r,Zfx (l.map JC)=some r∧cop .geq r 0 = !(l.all Vz):=by
 rw [Ziv,List.length_map]
 have:=YB (F:=fun k i=>Kq k (l.map JC) (l.length:Int) i) (n:=l.length) (fun i=>!atB Vz l i) hl
  (fun k i hi=>by
   show Kq (k+1) _ _ _=_
   rw [Zan,if_pos (Jg hi)]
   refine (Ki hi _).trans ?_
   dsimp only
   rw [ZBR l[i],Option.bind_some,Jd hi hl,J7 _ hi])
  (fun k i hi=>by show Kq (k+1) _ _ _=_;rw [Zan,if_neg (Jh hi)])
 rw [VG] at this
 exact this
theorem Zok (l:List ZfT) (hl:l.length < 2^63):Zb7 (l.map JC)=some (!(l.all Vz)):=by
 obtain ⟨r,h1,h2⟩:=ZoK l hl
 rw [ZhI,h1,Option.bind_some,h2]
def ltI (a b:Int):Bool:=decide (a < b)
def ZhV (l:List Int):Bool:=l.all Z5&&Vu ltI l
theorem ZA9 (l:List Int) (hl:l.length < 2^63) (a:Int):∃ r,ZzG (Za l) a=some r∧cop .geq r 0=l.any (fun x=>decide (a=x)):=by
 rw [ZqL,ZU]
 have:=YB (F:=fun k i=>Zed k (Za l) a (l.length:Int) i) (n:=l.length) (fun i=>!atB (fun x=>!decide (a=x)) l i) hl
  (fun k i hi=>by
   show Zed (k+1) _ _ _ _=_
   rw [Zgo,if_pos (Jg hi)]
   refine (ZT hi _).trans ?_
   rw [Jd hi hl,J7 _ hi,Bool.not_not]
   rfl)
  (fun k i hi=>by show Zed (k+1) _ _ _ _=_;rw [Zgo,if_neg (Jh hi)])
 rw [VG] at this
 have e:(!(l.all fun x=>!decide (a=x)))=l.any (fun x=>decide (a=x)):=by
  rw [List.any_eq_not_all_not]
 rw [e] at this
 exact this
theorem ZCk (l:List Int) (hl:l.length < 2^63) (a:Int):Zy1 (Za l) a=some (l.any (fun x=>decide (a=x))):=by
 obtain ⟨r,h1,h2⟩:=ZA9 l hl a
 rw [ZqI,h1,Option.bind_some,h2]
theorem s79 (l:List Int) (hl:l.length < 2^63) (a:Int):g79 (Za l) a=some (l.any (fun x=>decide (a=x))):=by
 rw [Zuc]
 have:=Jp (F:=fun k i=>ZiG k (Za l) a i) (n:=l.length) (fin:=some false) (bad:=some true) (atB (fun x=>!decide (a=x)) l) hl 0 (by omega)
  (fun k i _ hi=>by
   show ZiG (k+1) (Za l) _ _=_
   rw [Zjb,ZU,if_pos (Jg hi)]
   refine (ZT hi _).trans ?_
   rw [Jd hi hl,J7 _ hi]
   generalize ZiG k (Za l) a ((i+1:Nat):Int)=X
   generalize l[i]=t
   by_cases h:a=t
   ·rw [if_pos (by simp only [CQ];exact h.symm),if_neg (by simp [h])]
   ·rw [if_neg (by simp only [CQ];exact fun he=>h he.symm),if_pos (by simp [h])])
  (fun k i hi=>by show ZiG (k+1) (Za l) _ _=_;rw [Zjb,ZU,if_neg (Jh hi)])
 rw [Nat.sub_zero,Zkh] at this
 refine Eq.trans this ?_
 rw [List.any_eq_not_all_not]
 cases l.all (fun x=>!decide (a=x))<;>rfl
def Zhl (l:List Int) (i:Nat):Bool:=match l[i]? with | some x=>!((l.take i).any (fun y=>decide (x=y))) | none=>true
def VP (v:VV):Bool:=YQ v.number&&decide (v.members.length≤32)&&decide (v.owners.length≤16)&&(List.range' 0 v.members.length).all (fun i=>atB Z5 v.members i&&Zhl v.members i)&&v.owners.all Z5
theorem Zl1 {l:List Int} {i:Nat} (hi:i < l.length):Zhl l i = !((l.take i).any (fun y=>decide (l[i]=y))):=by
 unfold Zhl;rw [List.getElem?_eq_getElem hi]
theorem ZyI (v:VV) (h1:v.members.length < 2^63) (h2:v.owners.length < 2^63):Zvy v.number (Za v.members) (Za v.owners)=some (VP v):=by
 rw [Zqy,ZU,ZU,s33,Option.bind_some]
 have:=Jp (F:=fun k i=>ZcE k v.number (Za v.members) (Za v.owners) (Za v.members) (v.members.length:Int) i) (n:=v.members.length) (fin:=some (v.owners.all Z5)) (bad:=some false) (fun i=>atB Z5 v.members i&&Zhl v.members i) h1 0 (by omega)
  (fun k i _ hi=>by
   show ZcE (k+1) _ _ _ _ _ _=_
   rw [ZfY,if_pos (Jg hi)]
   refine (ZT hi _).trans ?_
   rw [s34,Option.bind_some,Zl (by omega),Zl (by rw [ZU];omega),Int.toNat_natCast,Zl8,ZCk _ (by rw [List.length_take];omega),Option.bind_some,Jd hi h1,J7 _ hi,Zl1 hi]
   cases Z5 v.members[i]<;>cases (v.members.take i).any (fun y=>decide (v.members[i]=y))<;>rfl)
  (fun k i hi=>by
   show ZcE (k+1) _ _ _ _ _ _=_
   rw [ZfY,if_neg (Jh hi),Zpx _ h2,Option.bind_some,Bool.not_not])
 rw [Nat.sub_zero] at this
 have this:ZcE ZE v.number (Za v.members) (Za v.owners) (Za v.members) (v.members.length:Int) 0=_:=this
 rw [this]
 unfold VP
 by_cases a1:v.members.length≤32
 ·by_cases a2:v.owners.length≤16
  ·rw [if_neg (show ¬ (cop .gtr (v.members.length:Int) 32)=true by simp only [CQ];omega),if_neg (show ¬ (cop .gtr (v.owners.length:Int) 16)=true by simp only [CQ];omega),decide_eq_true a1,decide_eq_true a2]
   cases YQ v.number<;>cases (List.range' 0 v.members.length).all (fun i=>atB Z5 v.members i&&Zhl v.members i)<;>rfl
  ·rw [if_neg (show ¬ (cop .gtr (v.members.length:Int) 32)=true by simp only [CQ];omega),if_pos (show (cop .gtr (v.owners.length:Int) 16)=true by simp only [CQ];omega),decide_eq_false a2]
   cases YQ v.number<;>simp
 ·rw [if_pos (show (cop .gtr (v.members.length:Int) 32)=true by simp only [CQ];omega),decide_eq_false a1]
  cases YQ v.number<;>simp
structure VV.Fits (v:VV):Prop where
 members:v.members.length < 2^63
 owners:v.owners.length < 2^63
structure Jm.Fits (r:Jm):Prop where
 view:r.view.Fits
 state:r.state.Fits
 next:r.next.Fits
 proposal:r.proposal.Fits
def Zhq (r:Jm):Bool:=Z5 r.core&&VP r.view&&Yy r.state&&VP r.next&&Yy r.proposal
theorem ZA5 (r:Jm) (h:r.Fits):Zz1 r.core r.view.number (Za r.view.members) (Za r.view.owners) (r.state.slots.map Zh) (r.state.pending.map ZN) (r.state.marks.map Zm) (r.state.answers.map ZS) (r.state.entries.map Ze) (Zc r.state.commits) r.ready r.next.number (Za r.next.members) (Za r.next.owners) (r.proposal.slots.map Zh) (r.proposal.pending.map ZN) (r.proposal.marks.map Zm) (r.proposal.answers.map ZS) (r.proposal.entries.map Ze) (Zc r.proposal.commits)=some (Zhq r):=by
 rw [Zqn,s34,Option.bind_some,ZyI _ h.view.members h.view.owners,Option.bind_some,Zz4 _ h.state,Option.bind_some,ZyI _ h.next.members h.next.owners,Option.bind_some,Zz4 _ h.proposal,Option.bind_some]
 unfold Zhq
 cases Z5 r.core<;>cases VP r.view<;>cases Yy r.state<;>cases VP r.next<;>cases Yy r.proposal<;>rfl
end Go.Proofs.YtjldbnbdcmfbmaaGreat
end

section
namespace Go.Proofs.YtjldbnbdcmfbmaaGreat
open Go Go.AM
set_option linter.unusedSimpArgs false
set_option linter.unusedVariables false
set_option maxRecDepth 100000
structure Msg where
 kind:Int
 view:Int
 frm:Int
 to:Int
 round:Int
 region:Int
 slot:Int
 op:Id
 err:Int
 settled:Bool
 req:Req
 ids:List Id
 nodes:List Yi
 cores:List Int
 moves:List ZfT
 base:Int
 next:VV
 state:Jv
 report:Jm
structure Msg.Fits (m:Msg):Prop where
 req:m.req.src.path.length < 2^63
 ids:m.ids.length < 2^63
 nodes:m.nodes.length < 2^63
 node:∀ x∈m.nodes,x.path.length < 2^63
 cores:m.cores.length < 2^63
 moves:m.moves.length < 2^63
 next:m.next.Fits
 state:m.state.Fits
 report:m.report.Fits
def ZpO (m:Msg):Qt5:=(m.kind,m.view,m.frm,m.to,m.round,m.region,m.slot,m.op.core,m.op.op,m.op.part,m.err,m.settled,m.req.id.core,m.req.id.op,m.req.id.part,m.req.call.kind,m.req.call.slot,m.req.call.dest,m.req.call.core,m.req.call.mask,m.req.call.object,m.req.call.bits,m.req.call.level,m.req.call.offset,m.req.call.count,m.req.call.index,m.req.call.addr,m.req.region,m.req.width,m.req.src.id.core,m.req.src.id.op,m.req.src.id.part,(Zc m.req.src.path),m.req.src.cap.kind,m.req.src.cap.base,m.req.src.cap.bits,m.req.src.cap.rights,m.req.src.cap.width,m.req.src.cap.level,m.req.src.cap.device,(Zc m.ids),(m.nodes.map Jx),(Za m.cores),(m.moves.map JC),m.base,m.next.number,(Za m.next.members),(Za m.next.owners),(m.state.slots.map Zh),(m.state.pending.map ZN),(m.state.marks.map Zm),(m.state.answers.map ZS),(m.state.entries.map Ze),(Zc m.state.commits),m.report.core,m.report.view.number,(Za m.report.view.members),(Za m.report.view.owners),(m.report.state.slots.map Zh),(m.report.state.pending.map ZN),(m.report.state.marks.map Zm),(m.report.state.answers.map ZS),(m.report.state.entries.map Ze),(Zc m.report.state.commits),m.report.ready,m.report.next.number,(Za m.report.next.members),(Za m.report.next.owners),(m.report.proposal.slots.map Zh),(m.report.proposal.pending.map ZN),(m.report.proposal.marks.map Zm),(m.report.proposal.answers.map ZS),(m.report.proposal.entries.map Ze),(Zc m.report.proposal.commits))
def Zqd:Call:=⟨0,0,0,0,0,0,0,0,0,0,0,0⟩
def Z8:Req:=⟨zid,Zqd,0,0,Z4⟩
def ZL:VV:=⟨0,[],[]⟩
def Zr:Jv:=⟨[],[],[],[],[],[]⟩
def Zt:Jm:=⟨0,ZL,Zr,false,ZL,Zr⟩
def clr (m:Msg):Nat→Msg
 | 0 => { m with region := 0 }
 | 1 => { m with req := Z8 }
 | 2 => { m with op := zid }
 | 3 => { m with err := 0 }
 | 4 => { m with settled := false }
 | 5 => { m with nodes := [] }
 | 6 => { m with slot := 0 }
 | 7 => { m with ids := [] }
 | 8 => { m with round := 0 }
 | 9 => { m with cores := [] }
 | 10 => { m with report := Zt }
 | 11 => { m with base := 0 }
 | 12 => { m with next := ZL }
 | 13 => { m with state := Zr }
 | 14 => { m with moves := [] }
 | _ => m
theorem s36 (m:Msg):∀ f:Nat,f < 15→g36 m.kind m.view m.frm m.to m.round m.region m.slot m.op.core m.op.op m.op.part m.err m.settled m.req.id.core m.req.id.op m.req.id.part m.req.call.kind m.req.call.slot m.req.call.dest m.req.call.core m.req.call.mask m.req.call.object m.req.call.bits m.req.call.level m.req.call.offset m.req.call.count m.req.call.index m.req.call.addr m.req.region m.req.width m.req.src.id.core m.req.src.id.op m.req.src.id.part (Zc m.req.src.path) m.req.src.cap.kind m.req.src.cap.base m.req.src.cap.bits m.req.src.cap.rights m.req.src.cap.width m.req.src.cap.level m.req.src.cap.device (Zc m.ids) (m.nodes.map Jx) (Za m.cores) (m.moves.map JC) m.base m.next.number (Za m.next.members) (Za m.next.owners) (m.state.slots.map Zh) (m.state.pending.map ZN) (m.state.marks.map Zm) (m.state.answers.map ZS) (m.state.entries.map Ze) (Zc m.state.commits) m.report.core m.report.view.number (Za m.report.view.members) (Za m.report.view.owners) (m.report.state.slots.map Zh) (m.report.state.pending.map ZN) (m.report.state.marks.map Zm) (m.report.state.answers.map ZS) (m.report.state.entries.map Ze) (Zc m.report.state.commits) m.report.ready m.report.next.number (Za m.report.next.members) (Za m.report.next.owners) (m.report.proposal.slots.map Zh) (m.report.proposal.pending.map ZN) (m.report.proposal.marks.map Zm) (m.report.proposal.answers.map ZS) (m.report.proposal.entries.map Ze) (Zc m.report.proposal.commits) (f:Int)=some (ZpO (clr m f))
 | 0, _ => by rw [KA]; rfl
 | 1, _ => by rw [KA]; rfl
 | 2, _ => by rw [KA]; rfl
 | 3, _ => by rw [KA]; rfl
 | 4, _ => by rw [KA]; rfl
 | 5, _ => by rw [KA]; rfl
 | 6, _ => by rw [KA]; rfl
 | 7, _ => by rw [KA]; rfl
 | 8, _ => by rw [KA]; rfl
 | 9, _ => by rw [KA]; rfl
 | 10, _ => by rw [KA]; rfl
 | 11, _ => by rw [KA]; rfl
 | 12, _ => by rw [KA]; rfl
 | 13, _ => by rw [KA]; rfl
 | 14, _ => by rw [KA]; rfl
theorem ZB6 (m:Msg) {j:Nat} (hj:j+1 < m.cores.length):ZyT (j:Int) ((j+1:Nat):Int) m.kind m.view m.frm m.to m.round m.region m.slot m.op.core m.op.op m.op.part m.err m.settled m.req.id.core m.req.id.op m.req.id.part m.req.call.kind m.req.call.slot m.req.call.dest m.req.call.core m.req.call.mask m.req.call.object m.req.call.bits m.req.call.level m.req.call.offset m.req.call.count m.req.call.index m.req.call.addr m.req.region m.req.width m.req.src.id.core m.req.src.id.op m.req.src.id.part (Zc m.req.src.path) m.req.src.cap.kind m.req.src.cap.base m.req.src.cap.bits m.req.src.cap.rights m.req.src.cap.width m.req.src.cap.level m.req.src.cap.device (Zc m.ids) (m.nodes.map Jx) (Za m.cores) (m.moves.map JC) m.base m.next.number (Za m.next.members) (Za m.next.owners) (m.state.slots.map Zh) (m.state.pending.map ZN) (m.state.marks.map Zm) (m.state.answers.map ZS) (m.state.entries.map Ze) (Zc m.state.commits) m.report.core m.report.view.number (Za m.report.view.members) (Za m.report.view.owners) (m.report.state.slots.map Zh) (m.report.state.pending.map ZN) (m.report.state.marks.map Zm) (m.report.state.answers.map ZS) (m.report.state.entries.map Ze) (Zc m.report.state.commits) m.report.ready m.report.next.number (Za m.report.next.members) (Za m.report.next.owners) (m.report.proposal.slots.map Zh) (m.report.proposal.pending.map ZN) (m.report.proposal.marks.map Zm) (m.report.proposal.answers.map ZS) (m.report.proposal.entries.map Ze) (Zc m.report.proposal.commits)=some (ltI m.cores[j] m.cores[j+1],ZpO m):=by
 rw [Zrc]
 refine (ZT (show j < m.cores.length by omega) _).trans ?_
 refine (ZT hj _).trans ?_
 rfl
theorem Zpl (m:Msg) (h:m.Fits):ZbO (m.cores.length:Int) m.kind m.view m.frm m.to m.round m.region m.slot m.op.core m.op.op m.op.part m.err m.settled m.req.id.core m.req.id.op m.req.id.part m.req.call.kind m.req.call.slot m.req.call.dest m.req.call.core m.req.call.mask m.req.call.object m.req.call.bits m.req.call.level m.req.call.offset m.req.call.count m.req.call.index m.req.call.addr m.req.region m.req.width m.req.src.id.core m.req.src.id.op m.req.src.id.part (Zc m.req.src.path) m.req.src.cap.kind m.req.src.cap.base m.req.src.cap.bits m.req.src.cap.rights m.req.src.cap.width m.req.src.cap.level m.req.src.cap.device (Zc m.ids) (m.nodes.map Jx) (Za m.cores) (m.moves.map JC) m.base m.next.number (Za m.next.members) (Za m.next.owners) (m.state.slots.map Zh) (m.state.pending.map ZN) (m.state.marks.map Zm) (m.state.answers.map ZS) (m.state.entries.map Ze) (Zc m.state.commits) m.report.core m.report.view.number (Za m.report.view.members) (Za m.report.view.owners) (m.report.state.slots.map Zh) (m.report.state.pending.map ZN) (m.report.state.marks.map Zm) (m.report.state.answers.map ZS) (m.report.state.entries.map Ze) (Zc m.report.state.commits) m.report.ready m.report.next.number (Za m.report.next.members) (Za m.report.next.owners) (m.report.proposal.slots.map Zh) (m.report.proposal.pending.map ZN) (m.report.proposal.marks.map Zm) (m.report.proposal.answers.map ZS) (m.report.proposal.entries.map Ze) (Zc m.report.proposal.commits)=some (Vu ltI m.cores,ZpO m):=by
 rw [ZhO]
 have:=Jp (F:=fun k i=>V9 k (m.cores.length:Int) i m.kind m.view m.frm m.to m.round m.region m.slot m.op.core m.op.op m.op.part m.err m.settled m.req.id.core m.req.id.op m.req.id.part m.req.call.kind m.req.call.slot m.req.call.dest m.req.call.core m.req.call.mask m.req.call.object m.req.call.bits m.req.call.level m.req.call.offset m.req.call.count m.req.call.index m.req.call.addr m.req.region m.req.width m.req.src.id.core m.req.src.id.op m.req.src.id.part (Zc m.req.src.path) m.req.src.cap.kind m.req.src.cap.base m.req.src.cap.bits m.req.src.cap.rights m.req.src.cap.width m.req.src.cap.level m.req.src.cap.device (Zc m.ids) (m.nodes.map Jx) (Za m.cores) (m.moves.map JC) m.base m.next.number (Za m.next.members) (Za m.next.owners) (m.state.slots.map Zh) (m.state.pending.map ZN) (m.state.marks.map Zm) (m.state.answers.map ZS) (m.state.entries.map Ze) (Zc m.state.commits) m.report.core m.report.view.number (Za m.report.view.members) (Za m.report.view.owners) (m.report.state.slots.map Zh) (m.report.state.pending.map ZN) (m.report.state.marks.map Zm) (m.report.state.answers.map ZS) (m.report.state.entries.map Ze) (Zc m.report.state.commits) m.report.ready m.report.next.number (Za m.report.next.members) (Za m.report.next.owners) (m.report.proposal.slots.map Zh) (m.report.proposal.pending.map ZN) (m.report.proposal.marks.map Zm) (m.report.proposal.answers.map ZS) (m.report.proposal.entries.map Ze) (Zc m.report.proposal.commits)) (n:=m.cores.length) (fin:=some (true,ZpO m)) (bad:=some (false,ZpO m)) (Zhc ltI m.cores) h.cores 1 (by omega)
  (fun k i h1 hi=>by
   obtain ⟨j,rfl⟩:∃ j,i=j+1:=⟨i-1,by omega⟩
   refine (Zaz ..).trans ?_
   rw [if_pos (Jg hi),Zlz (by have:=h.cores;omega),ZB6 m hi,Option.bind_some,Jd hi h.cores,WT _ hi]
   cases ltI m.cores[j] m.cores[j+1]<;>rfl)
  (fun k i hi=>by refine (Zaz ..).trans ?_;rw [if_neg (Jh hi)];rfl)
 rw [ZuI] at this
 refine Eq.trans this ?_
 cases Vu ltI m.cores<;>rfl
def ZM (m:Msg):Nat→Bool
 | 0 => J0 m.region
 | 1 => KQ m.req
 | 2 => Zdq m.op
 | 3 => ZdH m.err
 | 5 => decide (m.nodes.length ≤ 8) && (decide (m.kind ≠ 4) || decide (m.nodes.length = 1)) && m.nodes.all ZO
 | 6 => Zbq m.slot
 | 7 => decide (m.ids.length ≤ 64) && m.ids.all K3
 | 8 => YQ m.round
 | 9 => ZhV m.cores
 | 10 => Zhq m.report
 | 11 => YQ m.base
 | 12 => VP m.next
 | 13 => Yy m.state
 | 14 => decide (m.moves.length ≤ 16) && m.moves.all Vz
 | _ => true
theorem s35 (m:Msg) (h:m.Fits):∀ f:Nat,f < 15→g35 m.kind m.view m.frm m.to m.round m.region m.slot m.op.core m.op.op m.op.part m.err m.settled m.req.id.core m.req.id.op m.req.id.part m.req.call.kind m.req.call.slot m.req.call.dest m.req.call.core m.req.call.mask m.req.call.object m.req.call.bits m.req.call.level m.req.call.offset m.req.call.count m.req.call.index m.req.call.addr m.req.region m.req.width m.req.src.id.core m.req.src.id.op m.req.src.id.part (Zc m.req.src.path) m.req.src.cap.kind m.req.src.cap.base m.req.src.cap.bits m.req.src.cap.rights m.req.src.cap.width m.req.src.cap.level m.req.src.cap.device (Zc m.ids) (m.nodes.map Jx) (Za m.cores) (m.moves.map JC) m.base m.next.number (Za m.next.members) (Za m.next.owners) (m.state.slots.map Zh) (m.state.pending.map ZN) (m.state.marks.map Zm) (m.state.answers.map ZS) (m.state.entries.map Ze) (Zc m.state.commits) m.report.core m.report.view.number (Za m.report.view.members) (Za m.report.view.owners) (m.report.state.slots.map Zh) (m.report.state.pending.map ZN) (m.report.state.marks.map Zm) (m.report.state.answers.map ZS) (m.report.state.entries.map Ze) (Zc m.report.state.commits) m.report.ready m.report.next.number (Za m.report.next.members) (Za m.report.next.owners) (m.report.proposal.slots.map Zh) (m.report.proposal.pending.map ZN) (m.report.proposal.marks.map Zm) (m.report.proposal.answers.map ZS) (m.report.proposal.entries.map Ze) (Zc m.report.proposal.commits) (f:Int)=some (ZM m f)
 | 0, _ => by
   refine (KD ..).trans ?_
   exact (congrArg (fun x=>Option.bind x some) (s89 _))
 | 1, _ => by
   refine (KD ..).trans ?_
   exact (congrArg (fun x=>Option.bind x some) (s90 _ h.req))
 | 2, _ => by
   refine (KD ..).trans ?_
   exact (congrArg (fun x=>Option.bind x some) (s91 _))
 | 3, _ => by
   refine (KD ..).trans ?_
   exact (congrArg (fun x=>Option.bind x some) (s92 _))
 | 4, _ => by
   refine (KD ..).trans ?_
   rfl
 | 5, _ => by
   refine (KD ..).trans ?_
   show (if (cop .gtr ((m.nodes.map Jx).length:Int) 8)=true then some false else if (cop .eql m.kind 4)=true then (if (cop .neq ((m.nodes.map Jx).length:Int) 1)=true then some false else (ZdS (m.nodes.map Jx)).bind fun r=>some (!r)) else (ZdS (m.nodes.map Jx)).bind fun r=>some (!r))=_
   rw [List.length_map,Zum _ h.nodes h.node]
   repeat' split
   all_goals (refine congrArg some ?_;rw [Zs];simp only [ZM,Bool.not_not,CQ] at * <;> grind)
 | 6, _ => by
   refine (KD ..).trans ?_
   exact (congrArg (fun x=>Option.bind x some) (s96 _))
 | 7, _ => by
   refine (KD ..).trans ?_
   show (if (cop .leq ((Zc m.ids).length:Int) 64)=true then (ZjV (Zc m.ids)).bind fun r=>some (!r) else some false)=_
   rw [ZY,ZuH _ h.ids]
   repeat' split
   all_goals (refine congrArg some ?_;rw [Zs];simp only [ZM,Bool.not_not,CQ] at * <;> grind)
 | 8, _ => by
   refine (KD ..).trans ?_
   exact (congrArg (fun x=>Option.bind x some) (s33 _))
 | 9, _ => by
   refine (KD ..).trans ?_
   show ((Zcb (Za m.cores)).bind fun (r:Bool)=>if (!r)=true then (ZbO ((Za m.cores).length:Int) m.kind m.view m.frm m.to m.round m.region m.slot m.op.core m.op.op m.op.part m.err m.settled m.req.id.core m.req.id.op m.req.id.part m.req.call.kind m.req.call.slot m.req.call.dest m.req.call.core m.req.call.mask m.req.call.object m.req.call.bits m.req.call.level m.req.call.offset m.req.call.count m.req.call.index m.req.call.addr m.req.region m.req.width m.req.src.id.core m.req.src.id.op m.req.src.id.part (Zc m.req.src.path) m.req.src.cap.kind m.req.src.cap.base m.req.src.cap.bits m.req.src.cap.rights m.req.src.cap.width m.req.src.cap.level m.req.src.cap.device (Zc m.ids) (m.nodes.map Jx) (Za m.cores) (m.moves.map JC) m.base m.next.number (Za m.next.members) (Za m.next.owners) (m.state.slots.map Zh) (m.state.pending.map ZN) (m.state.marks.map Zm) (m.state.answers.map ZS) (m.state.entries.map Ze) (Zc m.state.commits) m.report.core m.report.view.number (Za m.report.view.members) (Za m.report.view.owners) (m.report.state.slots.map Zh) (m.report.state.pending.map ZN) (m.report.state.marks.map Zm) (m.report.state.answers.map ZS) (m.report.state.entries.map Ze) (Zc m.report.state.commits) m.report.ready m.report.next.number (Za m.report.next.members) (Za m.report.next.owners) (m.report.proposal.slots.map Zh) (m.report.proposal.pending.map ZN) (m.report.proposal.marks.map Zm) (m.report.proposal.answers.map ZS) (m.report.proposal.entries.map Ze) (Zc m.report.proposal.commits)).bind fun r=>some r.1 else some false)=_
   rw [ZpK _ h.cores,ZU,Zpl m h,Option.bind_some,Option.bind_some]
   show _=some (m.cores.all Z5&&Vu ltI m.cores)
   cases m.cores.all Z5<;>rfl
 | 10, _ => by
   refine (KD ..).trans ?_
   exact (congrArg (fun x=>Option.bind x some) (ZA5 _ h.report))
 | 11, _ => by
   refine (KD ..).trans ?_
   exact (congrArg (fun x=>Option.bind x some) (s33 _))
 | 12, _ => by
   refine (KD ..).trans ?_
   exact (congrArg (fun x=>Option.bind x some) (ZyI _ h.next.members h.next.owners))
 | 13, _ => by
   refine (KD ..).trans ?_
   exact (congrArg (fun x=>Option.bind x some) (Zz4 _ h.state))
 | 14, _ => by
   refine (KD ..).trans ?_
   show (if (cop .leq ((m.moves.map JC).length:Int) 16)=true then (Zb7 (m.moves.map JC)).bind fun r=>some (!r) else some false)=_
   rw [List.length_map,Zok _ h.moves]
   repeat' split
   all_goals (refine congrArg some ?_;rw [Zs];simp only [ZM,Bool.not_not,CQ] at * <;> grind)
def ZqK (r:Req):Bool:=decide (r.id=zid)&&decide (r.call.kind=0∧r.call.slot=0∧r.call.dest=0∧r.call.core=0∧r.call.mask=0∧r.call.object=0∧r.call.bits=0∧r.call.level=0∧r.call.offset=0∧r.call.count=0∧r.call.index=0∧r.call.addr=0)&&decide (r.region=0)&&decide (r.width=0)&&KB r.src Z4
def Zc8 (v:VV):Bool:=decide (v.number=0)&&decide (v.members.length=0)&&decide (v.owners.length=0)
def Wk (s:Jv):Bool:=decide (s.slots.length=0)&&decide (s.pending.length=0)&&decide (s.marks.length=0)&&decide (s.answers.length=0)&&decide (s.entries.length=0)&&decide (s.commits.length=0)
def WS (r:Jm):Bool:=decide (r.core=0)&&Zc8 r.view&&Wk r.state&&!r.ready&&Zc8 r.next&&Wk r.proposal
theorem Zlt (n:Nat):cop .eql (n:Int) 0=decide (n=0):=by rw [Zs];simp only [CQ];omega
theorem ZqX (z:Int):cop .eql z 0=decide (z=0):=rfl
theorem ZAU (r:Req) (h:r.src.path.length < 2^63):ZAa r.id.core r.id.op r.id.part r.call.kind r.call.slot r.call.dest r.call.core r.call.mask r.call.object r.call.bits r.call.level r.call.offset r.call.count r.call.index r.call.addr r.region r.width r.src.id.core r.src.id.op r.src.id.part (Zc r.src.path) r.src.cap.kind r.src.cap.base r.src.cap.bits r.src.cap.rights r.src.cap.width r.src.cap.level r.src.cap.device=some (ZqK r):=by
 rw [ZqF,Zso _ h,Option.bind_some]
 simp only [VL,Zbs]
 unfold ZqK
 repeat' split
 all_goals (refine congrArg some ?_;rw [Zs];simp only [CQ] at * <;> grind)
theorem Zyh (v:VV):Zuk v.number (Za v.members) (Za v.owners)=some (Zc8 v):=by
 rw [Zrb,ZU,ZU,Zlt,Zlt,ZqX]
 unfold Zc8
 cases decide (v.number=0)<;>cases decide (v.members.length=0)<;>rfl
theorem ZzF (s:Jv):ZtX (s.slots.map Zh) (s.pending.map ZN) (s.marks.map Zm) (s.answers.map ZS) (s.entries.map Ze) (Zc s.commits)=some (Wk s):=by
 rw [Zq2,List.length_map,List.length_map,List.length_map,List.length_map,List.length_map,ZY,Zlt,Zlt,Zlt,Zlt,Zlt,Zlt]
 unfold Wk
 cases decide (s.slots.length=0)<;>cases decide (s.pending.length=0)<;>cases decide (s.marks.length=0)<;>cases decide (s.answers.length=0)<;>cases decide (s.entries.length=0)<;>rfl
theorem ZBO (r:Jm):Zyj r.core r.view.number (Za r.view.members) (Za r.view.owners) (r.state.slots.map Zh) (r.state.pending.map ZN) (r.state.marks.map Zm) (r.state.answers.map ZS) (r.state.entries.map Ze) (Zc r.state.commits) r.ready r.next.number (Za r.next.members) (Za r.next.owners) (r.proposal.slots.map Zh) (r.proposal.pending.map ZN) (r.proposal.marks.map Zm) (r.proposal.answers.map ZS) (r.proposal.entries.map Ze) (Zc r.proposal.commits)=some (WS r):=by
 rw [Zsk,Zyh,ZzF,Zyh,ZzF,ZqX,Option.bind_some,Option.bind_some,Option.bind_some,Option.bind_some]
 unfold WS
 cases decide (r.core=0)<;>cases Zc8 r.view<;>cases Wk r.state<;>cases r.ready<;>cases Zc8 r.next<;>rfl
def zf (m:Msg):Nat→Bool
 | 0 => decide (m.region = 0)
 | 1 => ZqK m.req
 | 2 => decide (m.op = zid)
 | 3 => decide (m.err = 0)
 | 4 => !m.settled
 | 5 => decide (m.nodes.length = 0)
 | 6 => decide (m.slot = 0)
 | 7 => decide (m.ids.length = 0)
 | 8 => decide (m.round = 0)
 | 9 => decide (m.cores.length = 0)
 | 10 => WS m.report
 | 11 => decide (m.base = 0)
 | 12 => Zc8 m.next
 | 13 => Wk m.state
 | 14 => decide (m.moves.length = 0)
 | _ => true
def Zx0 (m:Msg):Bool:=(List.range 15).all (zf m)
theorem Jj (b:Bool) {y:Bool} {x:Option Bool} (h:x=some y):(if b=true then x else some false)=some (b&&y):=by cases b<;>simp [h]
theorem s37 (m:Msg) (h:m.req.src.path.length < 2^63):g37 m.kind m.view m.frm m.to m.round m.region m.slot m.op.core m.op.op m.op.part m.err m.settled m.req.id.core m.req.id.op m.req.id.part m.req.call.kind m.req.call.slot m.req.call.dest m.req.call.core m.req.call.mask m.req.call.object m.req.call.bits m.req.call.level m.req.call.offset m.req.call.count m.req.call.index m.req.call.addr m.req.region m.req.width m.req.src.id.core m.req.src.id.op m.req.src.id.part (Zc m.req.src.path) m.req.src.cap.kind m.req.src.cap.base m.req.src.cap.bits m.req.src.cap.rights m.req.src.cap.width m.req.src.cap.level m.req.src.cap.device (Zc m.ids) (m.nodes.map Jx) (Za m.cores) (m.moves.map JC) m.base m.next.number (Za m.next.members) (Za m.next.owners) (m.state.slots.map Zh) (m.state.pending.map ZN) (m.state.marks.map Zm) (m.state.answers.map ZS) (m.state.entries.map Ze) (Zc m.state.commits) m.report.core m.report.view.number (Za m.report.view.members) (Za m.report.view.owners) (m.report.state.slots.map Zh) (m.report.state.pending.map ZN) (m.report.state.marks.map Zm) (m.report.state.answers.map ZS) (m.report.state.entries.map Ze) (Zc m.report.state.commits) m.report.ready m.report.next.number (Za m.report.next.members) (Za m.report.next.owners) (m.report.proposal.slots.map Zh) (m.report.proposal.pending.map ZN) (m.report.proposal.marks.map Zm) (m.report.proposal.answers.map ZS) (m.report.proposal.entries.map Ze) (Zc m.report.proposal.commits)=some (Zx0 m):=by
 rw [Zux,ZAU _ h,Zyh,ZzF,ZBO,ZY,List.length_map,ZU,List.length_map,Zlt,Zlt,Zlt,Zlt,ZqX m.round,ZqX m.region,ZqX m.slot,ZqX m.err,ZqX m.base]
 have e:((cop .eql m.op.core 0)&&((cop .eql m.op.op 0)&&((cop .eql m.op.part 0)&&true)))=decide (m.op=zid):=by
  rw [Zs,VL,Zbs,decide_eq_true_eq]
 rw [e]
 simp only [Option.bind_some]
 refine Eq.trans (Jj _ (Jj _ (Jj _ (Jj _ (Jj _ (Jj _ (Jj _ (Jj _ (Jj _ (Jj _ (Jj _ (Jj _ (Jj _ (Jj _ (rfl))))))))))))))) ?_
 refine congrArg some ?_
 show _=(zf m 0&&(zf m 1&&(zf m 2&&(zf m 3&&(zf m 4&&(zf m 5&&(zf m 6&&(zf m 7&&(zf m 8&&(zf m 9&&(zf m 10&&(zf m 11&&(zf m 12&&(zf m 13&&(zf m 14&&true)))))))))))))))
 simp only [zf,Bool.and_true]
 ac_rfl
end Go.Proofs.YtjldbnbdcmfbmaaGreat
end

section
namespace Go.Proofs.YtjldbnbdcmfbmaaGreat
open Go Go.AM
set_option linter.unusedSimpArgs false
set_option linter.unusedVariables false
set_option maxRecDepth 100000
def kf:Nat→List Nat
 | 1 => [0, 1]
 | 2 => [0, 2, 3, 4, 5]
 | 3 => [0, 2]
 | 4 => [0, 2, 6, 5]
 | 5 => [0, 2, 3]
 | 6 => [0, 2, 7]
 | 7 => [0, 2]
 | 8 => [0, 2]
 | 9 => [0, 2]
 | 10 => [0, 2]
 | 11 => [0, 2]
 | 12 => [8, 9]
 | 13 => [8, 10]
 | 14 => [8, 11, 9, 12, 13]
 | 15 => [8]
 | 16 => [8]
 | 17 => [9, 14]
 | _ => []
def fc (l:List Nat):List (List AV):=l.map fun f:Nat=>[I (f:Int)]
theorem s32:∀ n:Nat,1≤n→n≤17→g32 (n:Int)=some (fc (kf n),true)
 | 1, _, _ => by rw [YG]; rfl
 | 2, _, _ => by rw [YG]; rfl
 | 3, _, _ => by rw [YG]; rfl
 | 4, _, _ => by rw [YG]; rfl
 | 5, _, _ => by rw [YG]; rfl
 | 6, _, _ => by rw [YG]; rfl
 | 7, _, _ => by rw [YG]; rfl
 | 8, _, _ => by rw [YG]; rfl
 | 9, _, _ => by rw [YG]; rfl
 | 10, _, _ => by rw [YG]; rfl
 | 11, _, _ => by rw [YG]; rfl
 | 12, _, _ => by rw [YG]; rfl
 | 13, _, _ => by rw [YG]; rfl
 | 14, _, _ => by rw [YG]; rfl
 | 15, _, _ => by rw [YG]; rfl
 | 16, _, _ => by rw [YG]; rfl
 | 17, _, _ => by rw [YG]; rfl
 | n + 18, _, h => absurd h (by omega)
theorem ZBN (k:Int) (h:¬ (1≤k∧k≤17)):g32 k=some (E0,false):=by
 rw [YG]
 rw [if_neg (show ¬ (cop .eql k 1)=true by simp only [CQ];omega)]
 rw [if_neg (show ¬ (cop .eql k 2)=true by simp only [CQ];omega)]
 rw [if_neg (show ¬ (cop .eql k 3)=true by simp only [CQ];omega)]
 rw [if_neg (show ¬ (cop .eql k 7)=true by simp only [CQ];omega)]
 rw [if_neg (show ¬ (cop .eql k 8)=true by simp only [CQ];omega)]
 rw [if_neg (show ¬ (cop .eql k 9)=true by simp only [CQ];omega)]
 rw [if_neg (show ¬ (cop .eql k 10)=true by simp only [CQ];omega)]
 rw [if_neg (show ¬ (cop .eql k 11)=true by simp only [CQ];omega)]
 rw [if_neg (show ¬ (cop .eql k 4)=true by simp only [CQ];omega)]
 rw [if_neg (show ¬ (cop .eql k 5)=true by simp only [CQ];omega)]
 rw [if_neg (show ¬ (cop .eql k 6)=true by simp only [CQ];omega)]
 rw [if_neg (show ¬ (cop .eql k 12)=true by simp only [CQ];omega)]
 rw [if_neg (show ¬ (cop .eql k 13)=true by simp only [CQ];omega)]
 rw [if_neg (show ¬ (cop .eql k 14)=true by simp only [CQ];omega)]
 rw [if_neg (show ¬ (cop .eql k 15)=true by simp only [CQ];omega)]
 rw [if_neg (show ¬ (cop .eql k 16)=true by simp only [CQ];omega)]
 rw [if_neg (show ¬ (cop .eql k 17)=true by simp only [CQ];omega)]
theorem ZtG (n:Nat):∀ f∈kf n,f < 15:=by
 intro f hf
 unfold kf at hf
 split at hf<;>simp at hf<;>omega
theorem Zng {γ:Type} {l:List Nat} {i:Nat} (h:i < l.length) (k:Int→Option γ):Zj (fc l) (i:Int) [.int .i64] k=k (l[i] : Int):=Yj (f:=fun n:Nat=>[I (n:Int)]) (sh:=[.int .i64]) (v:=fun n:Nat=>(n:Int)) (fun _=>rfl) h k
theorem ZoE (r:Msg) (f:Nat) (h:r.req.src.path.length < 2^63):(clr r f).req.src.path.length < 2^63:=by
 unfold clr
 split<;>first | exact h | (show ([] : List Id).length < 2^63;simp)
theorem l12 (m:Msg) (h:m.Fits) (L:List Nat) (hL:∀ f∈L,f < 15) (hn:L.length < 2^63):∀ (j i fuel:Nat) (r:Msg),L.length=i+j→j < fuel→r.req.src.path.length < 2^63→
  Zn8 fuel m.kind m.view m.frm m.to m.round m.region m.slot m.op.core m.op.op m.op.part m.err m.settled m.req.id.core m.req.id.op m.req.id.part m.req.call.kind m.req.call.slot m.req.call.dest m.req.call.core m.req.call.mask m.req.call.object m.req.call.bits m.req.call.level m.req.call.offset m.req.call.count m.req.call.index m.req.call.addr m.req.region m.req.width m.req.src.id.core m.req.src.id.op m.req.src.id.part (Zc m.req.src.path) m.req.src.cap.kind m.req.src.cap.base m.req.src.cap.bits m.req.src.cap.rights m.req.src.cap.width m.req.src.cap.level m.req.src.cap.device (Zc m.ids) (m.nodes.map Jx) (Za m.cores) (m.moves.map JC) m.base m.next.number (Za m.next.members) (Za m.next.owners) (m.state.slots.map Zh) (m.state.pending.map ZN) (m.state.marks.map Zm) (m.state.answers.map ZS) (m.state.entries.map Ze) (Zc m.state.commits) m.report.core m.report.view.number (Za m.report.view.members) (Za m.report.view.owners) (m.report.state.slots.map Zh) (m.report.state.pending.map ZN) (m.report.state.marks.map Zm) (m.report.state.answers.map ZS) (m.report.state.entries.map Ze) (Zc m.report.state.commits) m.report.ready m.report.next.number (Za m.report.next.members) (Za m.report.next.owners) (m.report.proposal.slots.map Zh) (m.report.proposal.pending.map ZN) (m.report.proposal.marks.map Zm) (m.report.proposal.answers.map ZS) (m.report.proposal.entries.map Ze) (Zc m.report.proposal.commits) r.kind r.view r.frm r.to r.round r.region r.slot r.op.core r.op.op r.op.part r.err r.settled r.req.id.core r.req.id.op r.req.id.part r.req.call.kind r.req.call.slot r.req.call.dest r.req.call.core r.req.call.mask r.req.call.object r.req.call.bits r.req.call.level r.req.call.offset r.req.call.count r.req.call.index r.req.call.addr r.req.region r.req.width r.req.src.id.core r.req.src.id.op r.req.src.id.part (Zc r.req.src.path) r.req.src.cap.kind r.req.src.cap.base r.req.src.cap.bits r.req.src.cap.rights r.req.src.cap.width r.req.src.cap.level r.req.src.cap.device (Zc r.ids) (r.nodes.map Jx) (Za r.cores) (r.moves.map JC) r.base r.next.number (Za r.next.members) (Za r.next.owners) (r.state.slots.map Zh) (r.state.pending.map ZN) (r.state.marks.map Zm) (r.state.answers.map ZS) (r.state.entries.map Ze) (Zc r.state.commits) r.report.core r.report.view.number (Za r.report.view.members) (Za r.report.view.owners) (r.report.state.slots.map Zh) (r.report.state.pending.map ZN) (r.report.state.marks.map Zm) (r.report.state.answers.map ZS) (r.report.state.entries.map Ze) (Zc r.report.state.commits) r.report.ready r.report.next.number (Za r.report.next.members) (Za r.report.next.owners) (r.report.proposal.slots.map Zh) (r.report.proposal.pending.map ZN) (r.report.proposal.marks.map Zm) (r.report.proposal.answers.map ZS) (r.report.proposal.entries.map Ze) (Zc r.report.proposal.commits) (fc L) (L.length:Int) (i:Int)=some ((L.drop i).all (ZM m)&&Zx0 ((L.drop i).foldl clr r)):=by
 intro j
 induction j with
 | zero =>
  intro i fuel r hij hf hr
  obtain ⟨f,rfl⟩:∃ f,fuel=f+1:=⟨fuel-1,by omega⟩
  refine (Zjj ..).trans ?_
  rw [if_neg (Jh (by omega)),s37 r hr,Option.bind_some,List.drop_of_length_le (by omega)]
  rfl
 | succ j ih =>
  intro i fuel r hij hf hr
  obtain ⟨f,rfl⟩:∃ f,fuel=f+1:=⟨fuel-1,by omega⟩
  have hi:i < L.length:=by omega
  have hlt:=hL _ (List.getElem_mem hi)
  refine (Zjj ..).trans ?_
  rw [if_pos (Jg hi)]
  refine (Zng hi _).trans ?_
  rw [s35 m h _ hlt,Option.bind_some,List.drop_eq_getElem_cons hi,List.all_cons,List.foldl_cons,Jd hi hn]
  cases ZM m L[i] with
  | false => rfl
  | true =>
   rw [if_neg (by simp),s36 r _ hlt,Option.bind_some,Bool.true_and]
   exact ih (i+1) f (clr r L[i]) (by omega) (by omega) (ZoE r _ hr)
def kindOk (k:Int):Bool:=decide (1≤k∧k≤17)
def headOk (m:Msg):Bool:=kindOk m.kind&&YQ m.view&&Z5 m.frm&&Z5 m.to
def rest (n:Nat) (m:Msg):Bool:=(List.range 15).all (fun g=>(kf n).contains g||zf m g)
def KL (m:Msg):Bool:=headOk m&&((kf m.kind.toNat).all (ZM m)&&rest m.kind.toNat m)
theorem ZsB (m:Msg):∀ n:Nat,1≤n→n≤17→Zx0 ((kf n).foldl clr m)=rest n m
 | 1, _, _ => by kernel_rfl
 | 2, _, _ => by kernel_rfl
 | 3, _, _ => by kernel_rfl
 | 4, _, _ => by kernel_rfl
 | 5, _, _ => by kernel_rfl
 | 6, _, _ => by kernel_rfl
 | 7, _, _ => by kernel_rfl
 | 8, _, _ => by kernel_rfl
 | 9, _, _ => by kernel_rfl
 | 10, _, _ => by kernel_rfl
 | 11, _, _ => by kernel_rfl
 | 12, _, _ => by kernel_rfl
 | 13, _, _ => by kernel_rfl
 | 14, _, _ => by kernel_rfl
 | 15, _, _ => by kernel_rfl
 | 16, _, _ => by kernel_rfl
 | 17, _, _ => by kernel_rfl
 | n + 18, _, h => absurd h (by omega)
theorem s12 (m:Msg) (h:m.Fits):g12 m.kind m.view m.frm m.to m.round m.region m.slot m.op.core m.op.op m.op.part m.err m.settled m.req.id.core m.req.id.op m.req.id.part m.req.call.kind m.req.call.slot m.req.call.dest m.req.call.core m.req.call.mask m.req.call.object m.req.call.bits m.req.call.level m.req.call.offset m.req.call.count m.req.call.index m.req.call.addr m.req.region m.req.width m.req.src.id.core m.req.src.id.op m.req.src.id.part (Zc m.req.src.path) m.req.src.cap.kind m.req.src.cap.base m.req.src.cap.bits m.req.src.cap.rights m.req.src.cap.width m.req.src.cap.level m.req.src.cap.device (Zc m.ids) (m.nodes.map Jx) (Za m.cores) (m.moves.map JC) m.base m.next.number (Za m.next.members) (Za m.next.owners) (m.state.slots.map Zh) (m.state.pending.map ZN) (m.state.marks.map Zm) (m.state.answers.map ZS) (m.state.entries.map Ze) (Zc m.state.commits) m.report.core m.report.view.number (Za m.report.view.members) (Za m.report.view.owners) (m.report.state.slots.map Zh) (m.report.state.pending.map ZN) (m.report.state.marks.map Zm) (m.report.state.answers.map ZS) (m.report.state.entries.map Ze) (Zc m.report.state.commits) m.report.ready m.report.next.number (Za m.report.next.members) (Za m.report.next.owners) (m.report.proposal.slots.map Zh) (m.report.proposal.pending.map ZN) (m.report.proposal.marks.map Zm) (m.report.proposal.answers.map ZS) (m.report.proposal.entries.map Ze) (Zc m.report.proposal.commits)=some (KL m):=by
 rw [Zu8]
 unfold KL headOk
 by_cases hk:1≤m.kind∧m.kind≤17
 ·obtain ⟨n,hn⟩:∃ n:Nat,m.kind=n:=⟨m.kind.toNat,by omega⟩
  have h1:kindOk m.kind=true:=decide_eq_true hk
  have e19:g32 m.kind=some (fc (kf n),true):=by rw [hn];exact s32 n (by omega) (by omega)
  rw [e19,Option.bind_some,s33,s34,s34,Option.bind_some,Option.bind_some,Option.bind_some,h1]
  have hlen:(fc (kf n)).length=(kf n).length:=List.length_map _
  have hsz:(kf n).length < 2^63:=by
   have:(kf n).length≤5:=by unfold kf;split<;>simp
   omega
  have e:=l12 m h (kf n) (ZtG n) hsz (kf n).length 0 ZE m (by omega) (by have:=Wv hsz;omega) h.req
  rw [List.drop_zero,ZsB m n (by omega) (by omega)] at e
  have hk2:m.kind.toNat=n:=by omega
  rw [hk2]
  dsimp only
  rw [hlen]
  refine (if_neg (by simp)).trans ?_
  cases YQ m.view<;>cases Z5 m.frm<;>cases Z5 m.to<;>first | rfl | exact e
 ·have h1:kindOk m.kind=false:=decide_eq_false hk
  rw [ZBN _ hk,Option.bind_some,h1]
  rfl
end Go.Proofs.YtjldbnbdcmfbmaaGreat
end

section
namespace Go.Proofs.YtjldbnbdcmfbmaaGreat
open Go Go.AM
set_option linter.unusedSimpArgs false
set_option linter.unusedVariables false
set_option maxRecDepth 100000
theorem ZpT (a b:Int):cop .eql a b=decide (a=b):=rfl
def at2 {α:Type} (q:α→α→Bool) (l m:List α) (i:Nat):Bool:=match l[i]?,m[i]? with | some a,some b=>q a b | _,_=>true
def Yo {α:Type} (q:α→α→Bool) (l m:List α):Bool:=decide (l.length=m.length)&&(List.range' 0 l.length).all (at2 q l m)
theorem Wq {α:Type} (q:α→α→Bool) {l m:List α} {i:Nat} (h:i < l.length) (h':i < m.length):at2 q l m i=q l[i] m[i]:=by
 unfold at2
 rw [List.getElem?_eq_getElem h,List.getElem?_eq_getElem h']
def ZbG (a b:Req):Bool:=decide (a.id.core=b.id.core∧a.id.op=b.id.op∧a.id.part=b.id.part)&&decide (a.call.kind=b.call.kind∧a.call.slot=b.call.slot∧a.call.dest=b.call.dest∧a.call.core=b.call.core∧a.call.mask=b.call.mask∧a.call.object=b.call.object∧a.call.bits=b.call.bits∧a.call.level=b.call.level∧a.call.offset=b.call.offset∧a.call.count=b.call.count∧a.call.index=b.call.index∧a.call.addr=b.call.addr)&&decide (a.region=b.region)&&decide (a.width=b.width)&&KB a.src b.src
theorem s68 (a b:Req) (ha:a.src.path.length < 2^63) (hb:b.src.path.length < 2^63):g68 a.id.core a.id.op a.id.part a.call.kind a.call.slot a.call.dest a.call.core a.call.mask a.call.object a.call.bits a.call.level a.call.offset a.call.count a.call.index a.call.addr a.region a.width a.src.id.core a.src.id.op a.src.id.part (Zc a.src.path) a.src.cap.kind a.src.cap.base a.src.cap.bits a.src.cap.rights a.src.cap.width a.src.cap.level a.src.cap.device b.id.core b.id.op b.id.part b.call.kind b.call.slot b.call.dest b.call.core b.call.mask b.call.object b.call.bits b.call.level b.call.offset b.call.count b.call.index b.call.addr b.region b.width b.src.id.core b.src.id.op b.src.id.part (Zc b.src.path) b.src.cap.kind b.src.cap.base b.src.cap.bits b.src.cap.rights b.src.cap.width b.src.cap.level b.src.cap.device=some (ZbG a b):=by
 rw [ZtE,Zo7 _ _ ha hb,Option.bind_some]
 unfold ZbG
 repeat' split
 all_goals (refine congrArg some ?_;rw [Zs];simp only [CQ] at * <;> grind)
theorem s70 (l m:List Yi) (hl:l.length < 2^63) (pl:∀ x∈l,x.path.length < 2^63) (pm:∀ x∈m,x.path.length < 2^63):g70 (l.map Jx) (m.map Jx)=some (Yo KB l m):=by
 rw [ZtP,List.length_map,List.length_map]
 unfold Yo
 by_cases h:l.length=m.length
 ·rw [if_neg (show ¬ (cop .neq (l.length:Int) (m.length:Int))=true by simp only [CQ];omega),decide_eq_true h,Bool.true_and]
  have:=Jp (F:=fun k i=>ZlK k (l.map Jx) (m.map Jx) i) (n:=l.length) (fin:=some true) (bad:=some false) (at2 KB l m) hl 0 (by omega)
   (fun k i _ hi=>by
    have hi':i < m.length:=by omega
    refine (ZiY ..).trans ?_
    rw [List.length_map,if_pos (Jg hi)]
    refine (Kf hi _).trans ?_
    refine (Kf hi' _).trans ?_
    rw [Jd hi hl,Wq _ hi hi']
    generalize ZlK k (l.map Jx) (m.map Jx) ((i+1:Nat):Int)=X
    try simp only [Kf hi,Kf hi',Zkq,d2,d4,d8,d16,Zo7 _ _ (pl _ (List.getElem_mem hi)) (pm _ (List.getElem_mem hi')),Option.bind_some]
    skip
    repeat' split
    all_goals (simp only [ZpT,CQ] at * <;> grind))
   (fun k i hi=>by refine (ZiY ..).trans ?_;rw [List.length_map,if_neg (Jh hi)])
  rw [Nat.sub_zero] at this
  refine Eq.trans this ?_
  cases (List.range' 0 l.length).all (at2 KB l m)<;>rfl
 ·rw [if_pos (show (cop .neq (l.length:Int) (m.length:Int))=true by simp only [CQ];omega),decide_eq_false h]
  rfl
def Zba:Int→Int→Bool:=fun a b=>decide (a=b)
theorem s71 (l m:List Int) (hl:l.length < 2^63):g71 (Za l) (Za m)=some (Yo Zba l m):=by
 rw [ZvD,ZU,ZU]
 unfold Yo
 by_cases h:l.length=m.length
 ·rw [if_neg (show ¬ (cop .neq (l.length:Int) (m.length:Int))=true by simp only [CQ];omega),decide_eq_true h,Bool.true_and]
  have:=Jp (F:=fun k i=>ZlX k (Za l) (Za m) i) (n:=l.length) (fin:=some true) (bad:=some false) (at2 Zba l m) hl 0 (by omega)
   (fun k i _ hi=>by
    have hi':i < m.length:=by omega
    refine (Zjn ..).trans ?_
    rw [ZU,if_pos (Jg hi)]
    refine (ZT hi _).trans ?_
    refine (ZT hi' _).trans ?_
    rw [Jd hi hl,Wq _ hi hi']
    generalize ZlX k (Za l) (Za m) ((i+1:Nat):Int)=X
    try simp only [ZT hi,ZT hi',d2,d4,d8,d16,Option.bind_some]
    generalize l[i]=a
    generalize m[i]=b
    unfold Zba
    repeat' split
    all_goals (simp only [ZpT,CQ] at * <;> grind))
   (fun k i hi=>by refine (Zjn ..).trans ?_;rw [ZU,if_neg (Jh hi)])
  rw [Nat.sub_zero] at this
  refine Eq.trans this ?_
  cases (List.range' 0 l.length).all (at2 Zba l m)<;>rfl
 ·rw [if_pos (show (cop .neq (l.length:Int) (m.length:Int))=true by simp only [CQ];omega),decide_eq_false h]
  rfl
def ZaG:ZfT→ZfT→Bool:=fun a b=>decide (a.region=b.region∧a.to=b.to)
theorem s72 (l m:List ZfT) (hl:l.length < 2^63):g72 (l.map JC) (m.map JC)=some (Yo ZaG l m):=by
 rw [ZtK,List.length_map,List.length_map]
 unfold Yo
 by_cases h:l.length=m.length
 ·rw [if_neg (show ¬ (cop .neq (l.length:Int) (m.length:Int))=true by simp only [CQ];omega),decide_eq_true h,Bool.true_and]
  have:=Jp (F:=fun k i=>Zl4 k (l.map JC) (m.map JC) i) (n:=l.length) (fin:=some true) (bad:=some false) (at2 ZaG l m) hl 0 (by omega)
   (fun k i _ hi=>by
    have hi':i < m.length:=by omega
    refine (Zjh ..).trans ?_
    rw [List.length_map,if_pos (Jg hi)]
    refine (Ki hi _).trans ?_
    refine (Ki hi' _).trans ?_
    rw [Jd hi hl,Wq _ hi hi']
    generalize Zl4 k (l.map JC) (m.map JC) ((i+1:Nat):Int)=X
    try simp only [Ki hi,Ki hi',d2,d4,d8,d16,Option.bind_some]
    generalize l[i]=a
    generalize m[i]=b
    unfold ZaG
    repeat' split
    all_goals (simp only [ZpT,CQ] at * <;> grind))
   (fun k i hi=>by refine (Zjh ..).trans ?_;rw [List.length_map,if_neg (Jh hi)])
  rw [Nat.sub_zero] at this
  refine Eq.trans this ?_
  cases (List.range' 0 l.length).all (at2 ZaG l m)<;>rfl
 ·rw [if_pos (show (cop .neq (l.length:Int) (m.length:Int))=true by simp only [CQ];omega),decide_eq_false h]
  rfl
def Zfp:Kc→Kc→Bool:=fun a b=>decide (a.op=b.op)&&decide (a.lock.core=b.lock.core∧a.lock.op=b.lock.op∧a.lock.part=b.lock.part)&&KB a.node b.node
theorem ZBB (l m:List Kc) (hl:l.length < 2^63) (pl:∀ x∈l,x.node.path.length < 2^63) (pm:∀ x∈m,x.node.path.length < 2^63):ZAe (l.map Zh) (m.map Zh)=some (Yo Zfp l m):=by
 rw [ZqS,List.length_map,List.length_map]
 unfold Yo
 by_cases h:l.length=m.length
 ·rw [if_neg (show ¬ (cop .neq (l.length:Int) (m.length:Int))=true by simp only [CQ];omega),decide_eq_true h,Bool.true_and]
  have:=Jp (F:=fun k i=>Zhj k (l.map Zh) (m.map Zh) i) (n:=l.length) (fin:=some true) (bad:=some false) (at2 Zfp l m) hl 0 (by omega)
   (fun k i _ hi=>by
    have hi':i < m.length:=by omega
    refine (Zf6 ..).trans ?_
    rw [List.length_map,if_pos (Jg hi)]
    refine (JZ hi _).trans ?_
    refine (JZ hi' _).trans ?_
    rw [Jd hi hl,Wq _ hi hi']
    generalize Zhj k (l.map Zh) (m.map Zh) ((i+1:Nat):Int)=X
    try simp only [JZ hi,JZ hi',ZkR,d2,d4,d8,d16,Zo7 _ _ (pl _ (List.getElem_mem hi)) (pm _ (List.getElem_mem hi')),Option.bind_some]
    generalize l[i]=a
    generalize m[i]=b
    unfold Zfp
    repeat' split
    all_goals (simp only [ZpT,CQ] at * <;> grind))
   (fun k i hi=>by refine (Zf6 ..).trans ?_;rw [List.length_map,if_neg (Jh hi)])
  rw [Nat.sub_zero] at this
  refine Eq.trans this ?_
  cases (List.range' 0 l.length).all (at2 Zfp l m)<;>rfl
 ·rw [if_pos (show (cop .neq (l.length:Int) (m.length:Int))=true by simp only [CQ];omega),decide_eq_false h]
  rfl
theorem ZBH (l m:List Req) (hl:l.length < 2^63) (pl:∀ x∈l,x.src.path.length < 2^63) (pm:∀ x∈m,x.src.path.length < 2^63):ZxU (l.map ZN) (m.map ZN)=some (Yo ZbG l m):=by
 rw [ZqN,List.length_map,List.length_map]
 unfold Yo
 by_cases h:l.length=m.length
 ·rw [if_neg (show ¬ (cop .neq (l.length:Int) (m.length:Int))=true by simp only [CQ];omega),decide_eq_true h,Bool.true_and]
  have:=Jp (F:=fun k i=>Zgj k (l.map ZN) (m.map ZN) i) (n:=l.length) (fin:=some true) (bad:=some false) (at2 ZbG l m) hl 0 (by omega)
   (fun k i _ hi=>by
    have hi':i < m.length:=by omega
    refine (ZfV ..).trans ?_
    rw [List.length_map,if_pos (Jg hi)]
    refine (Yf hi _).trans ?_
    refine (Yf hi' _).trans ?_
    rw [Jd hi hl,Wq _ hi hi']
    generalize Zgj k (l.map ZN) (m.map ZN) ((i+1:Nat):Int)=X
    try simp only [Yf hi,Yf hi',Ztl,d2,d4,d8,d16,s68 _ _ (pl _ (List.getElem_mem hi)) (pm _ (List.getElem_mem hi')),Option.bind_some]
    skip
    repeat' split
    all_goals (simp only [ZpT,CQ] at * <;> grind))
   (fun k i hi=>by refine (ZfV ..).trans ?_;rw [List.length_map,if_neg (Jh hi)])
  rw [Nat.sub_zero] at this
  refine Eq.trans this ?_
  cases (List.range' 0 l.length).all (at2 ZbG l m)<;>rfl
 ·rw [if_pos (show (cop .neq (l.length:Int) (m.length:Int))=true by simp only [CQ];omega),decide_eq_false h]
  rfl
def ZaQ:ZcA→ZcA→Bool:=fun a b=>decide (a.region=b.region∧a.op.core=b.op.core∧a.op.op=b.op.op∧a.op.part=b.op.part)
theorem ZBj (l m:List ZcA) (hl:l.length < 2^63):ZzH (l.map Zm) (m.map Zm)=some (Yo ZaQ l m):=by
 rw [Zsc,List.length_map,List.length_map]
 unfold Yo
 by_cases h:l.length=m.length
 ·rw [if_neg (show ¬ (cop .neq (l.length:Int) (m.length:Int))=true by simp only [CQ];omega),decide_eq_true h,Bool.true_and]
  have:=Jp (F:=fun k i=>Zhn k (l.map Zm) (m.map Zm) i) (n:=l.length) (fin:=some true) (bad:=some false) (at2 ZaQ l m) hl 0 (by omega)
   (fun k i _ hi=>by
    have hi':i < m.length:=by omega
    refine (Zgm ..).trans ?_
    rw [List.length_map,if_pos (Jg hi)]
    refine (J6 hi _).trans ?_
    refine (J6 hi' _).trans ?_
    rw [Jd hi hl,Wq _ hi hi']
    generalize Zhn k (l.map Zm) (m.map Zm) ((i+1:Nat):Int)=X
    try simp only [J6 hi,J6 hi',d2,d4,d8,d16,Option.bind_some]
    generalize l[i]=a
    generalize m[i]=b
    unfold ZaQ
    repeat' split
    all_goals (simp only [ZpT,CQ] at * <;> grind))
   (fun k i hi=>by refine (Zgm ..).trans ?_;rw [List.length_map,if_neg (Jh hi)])
  rw [Nat.sub_zero] at this
  refine Eq.trans this ?_
  cases (List.range' 0 l.length).all (at2 ZaQ l m)<;>rfl
 ·rw [if_pos (show (cop .neq (l.length:Int) (m.length:Int))=true by simp only [CQ];omega),decide_eq_false h]
  rfl
def ZfI:Ans→Ans→Bool:=fun a b=>decide (a.op=b.op∧a.err=b.err)
theorem ZB5 (l m:List Ans) (hl:l.length < 2^63):Zzr (l.map ZS) (m.map ZS)=some (Yo ZfI l m):=by
 rw [ZqT,List.length_map,List.length_map]
 unfold Yo
 by_cases h:l.length=m.length
 ·rw [if_neg (show ¬ (cop .neq (l.length:Int) (m.length:Int))=true by simp only [CQ];omega),decide_eq_true h,Bool.true_and]
  have:=Jp (F:=fun k i=>Zg6 k (l.map ZS) (m.map ZS) i) (n:=l.length) (fin:=some true) (bad:=some false) (at2 ZfI l m) hl 0 (by omega)
   (fun k i _ hi=>by
    have hi':i < m.length:=by omega
    refine (ZhB ..).trans ?_
    rw [List.length_map,if_pos (Jg hi)]
    refine (YC hi _).trans ?_
    refine (YC hi' _).trans ?_
    rw [Jd hi hl,Wq _ hi hi']
    generalize Zg6 k (l.map ZS) (m.map ZS) ((i+1:Nat):Int)=X
    try simp only [YC hi,YC hi',d2,d4,d8,d16,Option.bind_some]
    generalize l[i]=a
    generalize m[i]=b
    unfold ZfI
    repeat' split
    all_goals (simp only [ZpT,CQ] at * <;> grind))
   (fun k i hi=>by refine (ZhB ..).trans ?_;rw [List.length_map,if_neg (Jh hi)])
  rw [Nat.sub_zero] at this
  refine Eq.trans this ?_
  cases (List.range' 0 l.length).all (at2 ZfI l m)<;>rfl
 ·rw [if_pos (show (cop .neq (l.length:Int) (m.length:Int))=true by simp only [CQ];omega),decide_eq_false h]
  rfl
def Zfz:Zx→Zx→Bool:=fun a b=>decide (a.core=b.core)&&decide (a.slot=b.slot)&&KB a.node b.node
theorem ZAX (l m:List Zx) (hl:l.length < 2^63) (pl:∀ x∈l,x.node.path.length < 2^63) (pm:∀ x∈m,x.node.path.length < 2^63):Zzk (l.map Ze) (m.map Ze)=some (Yo Zfz l m):=by
 rw [ZrG,List.length_map,List.length_map]
 unfold Yo
 by_cases h:l.length=m.length
 ·rw [if_neg (show ¬ (cop .neq (l.length:Int) (m.length:Int))=true by simp only [CQ];omega),decide_eq_true h,Bool.true_and]
  have:=Jp (F:=fun k i=>ZgL k (l.map Ze) (m.map Ze) i) (n:=l.length) (fin:=some true) (bad:=some false) (at2 Zfz l m) hl 0 (by omega)
   (fun k i _ hi=>by
    have hi':i < m.length:=by omega
    refine (Zgh ..).trans ?_
    rw [List.length_map,if_pos (Jg hi)]
    refine (Zo hi _).trans ?_
    refine (Zo hi' _).trans ?_
    rw [Jd hi hl,Wq _ hi hi']
    generalize ZgL k (l.map Ze) (m.map Ze) ((i+1:Nat):Int)=X
    try simp only [Zo hi,Zo hi',Yg,d2,d4,d8,d16,Zo7 _ _ (pl _ (List.getElem_mem hi)) (pm _ (List.getElem_mem hi')),Option.bind_some]
    generalize l[i]=a
    generalize m[i]=b
    unfold Zfz
    repeat' split
    all_goals (simp only [ZpT,CQ] at * <;> grind))
   (fun k i hi=>by refine (Zgh ..).trans ?_;rw [List.length_map,if_neg (Jh hi)])
  rw [Nat.sub_zero] at this
  refine Eq.trans this ?_
  cases (List.range' 0 l.length).all (at2 Zfz l m)<;>rfl
 ·rw [if_pos (show (cop .neq (l.length:Int) (m.length:Int))=true by simp only [CQ];omega),decide_eq_false h]
  rfl
def Zf1 (a b:VV):Bool:=cop .eql a.number b.number&&(Yo Zba a.members b.members&&Yo Zba a.owners b.owners)
def Zbw (a b:Jv):Bool:=Yo Zfp a.slots b.slots&&(Yo ZbG a.pending b.pending&&(Yo ZaQ a.marks b.marks&&(Yo ZfI a.answers b.answers&&(Yo Zfz a.entries b.entries&&decide (a.commits=b.commits)))))
def Za4 (a b:Jm):Bool:=cop .eql a.core b.core&&(Zf1 a.view b.view&&(Zbw a.state b.state&&((a.ready == b.ready)&&(Zf1 a.next b.next&&Zbw a.proposal b.proposal))))
theorem s73 (a b:VV) (h:a.Fits):g73 a.number (Za a.members) (Za a.owners) b.number (Za b.members) (Za b.owners)=some (Zf1 a b):=by
 rw [ZvY,s71 _ _ h.members,s71 _ _ h.owners]
 exact Jj _ (Jj _ rfl)
theorem s74 (a b:Jv) (h:a.Fits) (h':b.Fits):g74 (a.slots.map Zh) (a.pending.map ZN) (a.marks.map Zm) (a.answers.map ZS) (a.entries.map Ze) (Zc a.commits) (b.slots.map Zh) (b.pending.map ZN) (b.marks.map Zm) (b.answers.map ZS) (b.entries.map Ze) (Zc b.commits)=some (Zbw a b):=by
 rw [ZvO,ZBB _ _ h.slots h.slot h'.slot,ZBH _ _ h.pending h.req h'.req,ZBj _ _ h.marks,ZB5 _ _ h.answers,ZAX _ _ h.entries h.entry h'.entry,s69 _ _ h.commits h'.commits]
 exact Jj _ (Jj _ (Jj _ (Jj _ (Jj _ rfl))))
theorem s75 (a b:Jm) (h:a.Fits) (h':b.Fits):g75 a.core a.view.number (Za a.view.members) (Za a.view.owners) (a.state.slots.map Zh) (a.state.pending.map ZN) (a.state.marks.map Zm) (a.state.answers.map ZS) (a.state.entries.map Ze) (Zc a.state.commits) a.ready a.next.number (Za a.next.members) (Za a.next.owners) (a.proposal.slots.map Zh) (a.proposal.pending.map ZN) (a.proposal.marks.map Zm) (a.proposal.answers.map ZS) (a.proposal.entries.map Ze) (Zc a.proposal.commits) b.core b.view.number (Za b.view.members) (Za b.view.owners) (b.state.slots.map Zh) (b.state.pending.map ZN) (b.state.marks.map Zm) (b.state.answers.map ZS) (b.state.entries.map Ze) (Zc b.state.commits) b.ready b.next.number (Za b.next.members) (Za b.next.owners) (b.proposal.slots.map Zh) (b.proposal.pending.map ZN) (b.proposal.marks.map Zm) (b.proposal.answers.map ZS) (b.proposal.entries.map Ze) (Zc b.proposal.commits)=some (Za4 a b):=by
 rw [Zue,s73 _ _ h.view,s74 _ _ h.state h'.state,s73 _ _ h.next,s74 _ _ h.proposal h'.proposal]
 exact Jj _ (Jj _ (Jj _ (Jj _ (Jj _ rfl))))
theorem nif (c:Bool) {y:Bool} {x:Option Bool} (h:x=some y):(if c=true then some false else x)=some (!c&&y):=by cases c<;>simp [h]
def Zld (a b:Msg):Bool:=!cop .neq a.kind b.kind&&(!cop .neq a.view b.view&&(!cop .neq a.frm b.frm&&(!cop .neq a.to b.to&&(!cop .neq a.round b.round&&(!cop .neq a.region b.region&&(!cop .neq a.slot b.slot&&(!(!((cop .eql a.op.core b.op.core)&&((cop .eql a.op.op b.op.op)&&((cop .eql a.op.part b.op.part)&&true))))&&(!cop .neq a.err b.err&&(!(!(a.settled == b.settled))&&(!cop .neq a.base b.base&&(ZbG a.req b.req&&(decide (a.ids=b.ids)&&(Yo KB a.nodes b.nodes&&(Yo Zba a.cores b.cores&&(Yo ZaG a.moves b.moves&&(Zf1 a.next b.next&&(Zbw a.state b.state&&Za4 a.report b.report)))))))))))))))))
theorem s19 (a b:Msg) (h:a.Fits) (h':b.Fits):g19 a.kind a.view a.frm a.to a.round a.region a.slot a.op.core a.op.op a.op.part a.err a.settled a.req.id.core a.req.id.op a.req.id.part a.req.call.kind a.req.call.slot a.req.call.dest a.req.call.core a.req.call.mask a.req.call.object a.req.call.bits a.req.call.level a.req.call.offset a.req.call.count a.req.call.index a.req.call.addr a.req.region a.req.width a.req.src.id.core a.req.src.id.op a.req.src.id.part (Zc a.req.src.path) a.req.src.cap.kind a.req.src.cap.base a.req.src.cap.bits a.req.src.cap.rights a.req.src.cap.width a.req.src.cap.level a.req.src.cap.device (Zc a.ids) (a.nodes.map Jx) (Za a.cores) (a.moves.map JC) a.base a.next.number (Za a.next.members) (Za a.next.owners) (a.state.slots.map Zh) (a.state.pending.map ZN) (a.state.marks.map Zm) (a.state.answers.map ZS) (a.state.entries.map Ze) (Zc a.state.commits) a.report.core a.report.view.number (Za a.report.view.members) (Za a.report.view.owners) (a.report.state.slots.map Zh) (a.report.state.pending.map ZN) (a.report.state.marks.map Zm) (a.report.state.answers.map ZS) (a.report.state.entries.map Ze) (Zc a.report.state.commits) a.report.ready a.report.next.number (Za a.report.next.members) (Za a.report.next.owners) (a.report.proposal.slots.map Zh) (a.report.proposal.pending.map ZN) (a.report.proposal.marks.map Zm) (a.report.proposal.answers.map ZS) (a.report.proposal.entries.map Ze) (Zc a.report.proposal.commits) b.kind b.view b.frm b.to b.round b.region b.slot b.op.core b.op.op b.op.part b.err b.settled b.req.id.core b.req.id.op b.req.id.part b.req.call.kind b.req.call.slot b.req.call.dest b.req.call.core b.req.call.mask b.req.call.object b.req.call.bits b.req.call.level b.req.call.offset b.req.call.count b.req.call.index b.req.call.addr b.req.region b.req.width b.req.src.id.core b.req.src.id.op b.req.src.id.part (Zc b.req.src.path) b.req.src.cap.kind b.req.src.cap.base b.req.src.cap.bits b.req.src.cap.rights b.req.src.cap.width b.req.src.cap.level b.req.src.cap.device (Zc b.ids) (b.nodes.map Jx) (Za b.cores) (b.moves.map JC) b.base b.next.number (Za b.next.members) (Za b.next.owners) (b.state.slots.map Zh) (b.state.pending.map ZN) (b.state.marks.map Zm) (b.state.answers.map ZS) (b.state.entries.map Ze) (Zc b.state.commits) b.report.core b.report.view.number (Za b.report.view.members) (Za b.report.view.owners) (b.report.state.slots.map Zh) (b.report.state.pending.map ZN) (b.report.state.marks.map Zm) (b.report.state.answers.map ZS) (b.report.state.entries.map Ze) (Zc b.report.state.commits) b.report.ready b.report.next.number (Za b.report.next.members) (Za b.report.next.owners) (b.report.proposal.slots.map Zh) (b.report.proposal.pending.map ZN) (b.report.proposal.marks.map Zm) (b.report.proposal.answers.map ZS) (b.report.proposal.entries.map Ze) (Zc b.report.proposal.commits)=some (Zld a b):=by
 rw [ZuN,s68 _ _ h.req h'.req,s69 _ _ h.ids h'.ids,s70 _ _ h.nodes h.node h'.node,s71 _ _ h.cores,s72 _ _ h.moves,s73 _ _ h.next,s74 _ _ h.state h'.state,s75 _ _ h.report h'.report]
 exact nif _ (nif _ (nif _ (nif _ (nif _ (nif _ (nif _ (nif _ (nif _ (nif _ (nif _ (Jj _ (Jj _ (Jj _ (Jj _ (Jj _ (Jj _ (Jj _ (rfl))))))))))))))))))
theorem J3 {α:Type} (q:α→α→Bool) (hq:∀ a,q a a=true) (l:List α):Yo q l l=true:=by
 unfold Yo
 rw [decide_eq_true rfl,Bool.true_and,List.all_eq_true]
 intro i hi
 have hi':i < l.length:=by simpa [List.mem_range'] using hi
 rw [Wq q hi' hi',hq]
theorem V1 (a:Yi):KB a a=true:=by simp [KB]
theorem Zd2 (a:Req):ZbG a a=true:=by simp [ZbG,V1]
theorem Zey (a:VV):Zf1 a a=true:=by
 simp [Zf1,J3 Zba (fun a=>by simp [Zba]),cop]
theorem ZcP (a:Jv):Zbw a a=true:=by
 simp [Zbw,J3 Zfp (fun a=>by simp [Zfp,V1]),J3 ZbG Zd2,J3 ZaQ (fun a=>by simp [ZaQ]),J3 ZfI (fun a=>by simp [ZfI]),J3 Zfz (fun a=>by simp [Zfz,V1])]
theorem ZgU (a:Jm):Za4 a a=true:=by simp [Za4,Zey,ZcP,cop]
theorem ZkY (a:Msg):Zld a a=true:=by
 simp [Zld,Zd2,J3 KB V1,J3 Zba (fun a=>by simp [Zba]),J3 ZaG (fun a=>by simp [ZaG]),Zey,ZcP,ZgU,cop]
end Go.Proofs.YtjldbnbdcmfbmaaGreat
end

section
namespace Go.Proofs.YtjldbnbdcmfbmaaGreat
open Go Go.AM
set_option linter.unusedSimpArgs false
set_option linter.unusedVariables false
set_option maxRecDepth 100000
theorem Zq8 {n:Nat} {m:Msg} (h:rest n m=true) (g:Nat) (hg:g < 15) (hc:(kf n).contains g=false):zf m g=true:=by
 have this:((kf n).contains g||zf m g)=true:=(List.all_eq_true.1 h) g (List.mem_range.2 hg)
 rwa [hc,Bool.false_or] at this
end Go.Proofs.YtjldbnbdcmfbmaaGreat
end

section
namespace Go.Proofs.YtjldbnbdcmfbmaaGreat
open Go Go.AM
set_option linter.unusedSimpArgs false
set_option linter.unusedVariables false
set_option maxRecDepth 100000
theorem Zrp {α:Type} {F:Nat→LL→Int→Option LL} (l:List α) (f:α→LL) (hn:l.length < 2^63)
  (step:∀ (k i:Nat) (hi:i < l.length),F (k+1) ((l.take i).flatMap f) (i:Int)=F k ((l.take i).flatMap f++f l[i]) ((i+1:Nat):Int))
  (last:∀ (k:Nat) (acc:LL) (i:Nat),l.length≤i→F (k+1) acc (i:Int)=some acc):F ZE [] 0=some (l.flatMap f):=by
 have key:∀ (j i fuel:Nat),l.length≤i+j→j < fuel→F fuel ((l.take i).flatMap f) (i:Int)=some (l.flatMap f):=by
  intro j
  induction j with
  | zero =>
   intro i fuel h hf
   obtain ⟨q,rfl⟩:∃ q,fuel=q+1:=⟨fuel-1,by omega⟩
   rw [last q _ i (by omega),List.take_of_length_le (by omega)]
  | succ j ih =>
   intro i fuel h hf
   obtain ⟨q,rfl⟩:∃ q,fuel=q+1:=⟨fuel-1,by omega⟩
   by_cases hi:i < l.length
   ·have e:(l.take i).flatMap f++f l[i]=(l.take (i+1)).flatMap f:=by
     rw [List.take_add_one,List.getElem?_eq_getElem hi,Option.toList_some,List.flatMap_append,List.flatMap_singleton]
    rw [step q i hi,e]
    exact ih (i+1) q (by omega) (by omega)
   ·rw [last q _ i (by omega),List.take_of_length_le (by omega)]
 exact key l.length 0 ZE (by omega) (by have:=Wv hn;omega)
theorem Zi5 {α:Type} (f:α→List AV) (l:List α):l.flatMap (fun x=>[f x])=l.map f:=by
 induction l with
 | nil => rfl
 | cons a r ih => rw [List.flatMap_cons, ih, List.map_cons]; rfl
theorem Zv {a b:LL} {k:Nat} (h:a.length+b.length≤4096) (hk:k≤10000):Ju a b k:=by
 unfold Ju JD
 have:(a.length+b.length)*(k+1)≤4096*10001:=Nat.mul_le_mul h (by omega)
 omega
theorem s76 (l:List Id) (h:l.length≤64):g76 (Zc l)=some (Zc l):=by
 rw [Zud]
 exact Zl (Zv (by rw [ZY];simp;omega) (by omega)) _
theorem s25 (n:Yi) (h:n.path.length≤64):g25 n.id.core n.id.op n.id.part (Zc n.path) n.cap.kind n.cap.base n.cap.bits n.cap.rights n.cap.width n.cap.level n.cap.device=some (Zkq n):=by
 rw [Zv4,s76 _ h];rfl
structure ZAK (l:List Kc):Prop where
 len:l.length≤70
 path:∀ s∈l,s.node.path.length≤20
end Go.Proofs.YtjldbnbdcmfbmaaGreat
end

section
namespace Go.Proofs.YtjldbnbdcmfbmaaGreat
open Go Go.AM
set_option linter.unusedSimpArgs false
set_option linter.unusedVariables false
set_option maxRecDepth 100000
theorem Zcw {α:Type} (f:α→List AV) (g:α→α) (l:List α) (i o:Nat) (c:List AV) (h:∀ x,l[i]? = some x→setCells (f x) o c=f (g x)):Z0 (l.map f) i o c=(l.modify i g).map f:=by
 unfold Z0
 refine List.ext_getElem? fun j=>?_
 rw [List.getElem?_modify,List.getElem?_map,List.getElem?_map,List.getElem?_modify]
 cases hj:l[j]? with
 | none => rfl
 | some x =>
  by_cases hij:i=j
  ·subst hij
   simp [h x hj]
  ·simp [hij]
def ZvF (op:Int) (s:Kc):Kc:={ s with op:=op }
theorem ZuF (acc:List Kc) (i:Nat) (op:Int):Z0 (acc.map Zh) i 11 [AV.val (.int .i64 op)]=(acc.modify i (ZvF op)).map Zh:=Zcw Zh (ZvF op) acc i 11 _ fun _ _=>rfl
end Go.Proofs.YtjldbnbdcmfbmaaGreat
end

section
namespace Go.Proofs.YtjldbnbdcmfbmaaGreat
open Go Go.AM
set_option linter.unusedSimpArgs false
set_option linter.unusedVariables false
set_option maxRecDepth 100000
theorem ZgZ {γ:Type} {F:Nat→Int→Option γ} {n:Nat} (hit:Nat→γ) (p:Nat→Bool) (hn:n < 2^63)
  (step:∀ k i:Nat,i < n→F (k+1) (i:Int)=if p i=true then some (hit i) else F k ((i+1:Nat):Int))
  (last:∀ k:Nat,F (k+1) (n:Int)=some (hit n)) (m:Nat) (hm:m≤n) (h1:∀ j,j < m→p j=false) (h2:m < n→p m=true):F ZE 0=some (hit m):=by
 have key:∀ (j i fuel:Nat),i+j=m→n-i < fuel→F fuel (i:Int)=some (hit m):=by
  intro j
  induction j with
  | zero =>
   intro i fuel h hf
   obtain ⟨q,rfl⟩:∃ q,fuel=q+1:=⟨fuel-1,by omega⟩
   have:i=m:=by omega
   subst this
   by_cases hi:i < n
   ·rw [step q i hi,if_pos (h2 hi)]
   ·have:i=n:=by omega
    subst this
    exact last q
  | succ j ih =>
   intro i fuel h hf
   obtain ⟨q,rfl⟩:∃ q,fuel=q+1:=⟨fuel-1,by omega⟩
   rw [step q i (by omega),if_neg (by rw [h1 i (by omega)];exact Bool.false_ne_true)]
   exact ih (i+1) q (by omega) (by omega)
 exact key m 0 ZE (by omega) (by have:=Wv hn;omega)
def Ze5 {α:Type} (q:α→Bool):List α→Nat
 | [] => 0
 | a :: r => match q a with | true => 0 | false => Ze5 q r + 1
theorem Zho {α:Type} (q:α→Bool):∀ (l:List α),Ze5 q l≤l.length
 | [] => Nat.le_refl _
 | a :: r => by
  unfold Ze5
  have:=Zho q r
  split<;>simp only [List.length_cons]<;>omega
theorem Zj6 {α:Type} (q:α→Bool):∀ (l:List α) (j:Nat) (hj:j < l.length),j < Ze5 q l→q l[j]=false
 | [], j, hj, _ => by simp at hj
 | a :: r, j, hj, h => by
  unfold Ze5 at h
  split at h
  ·omega
  ·rename_i ha
   cases j with
   | zero => exact ha
   | succ j => exact Zj6 q r j (by simpa using hj) (by omega)
theorem ZlA {α:Type} (q:α→Bool):∀ (l:List α) (h:Ze5 q l < l.length),q l[Ze5 q l]=true
 | [], h => by simp at h
 | a :: r, h => by
  cases ha:q a with
  | true =>
   have e:Ze5 q (a::r)=0:=by unfold Ze5;rw [ha]
   simp only [e]
   exact ha
  | false =>
   have e:Ze5 q (a::r)=Ze5 q r+1:=by rw [Ze5];rw [ha]
   have h':Ze5 q r < r.length:=by rw [e] at h;simpa using h
   have:=ZlA q r h'
   simp only [e]
   exact this
def Zie (n m:Nat):Int:=if m < n then (m:Int) else -1
theorem Zjs (n m:Nat):cop .geq (Zie n m) 0=decide (m < n):=by
 unfold Zie
 rw [Zs]
 split<;>simp only [CQ]<;>constructor<;>intro<;>first | omega | simp_all
theorem Zh6 {n m:Nat} (h:m < n):Zie n m=(m:Int):=if_pos h
def before (r q:Req):Bool:=Zw6 r.id q.id
end Go.Proofs.YtjldbnbdcmfbmaaGreat
end

section
namespace Go.Proofs.YtjldbnbdcmfbmaaGreat
open Go Go.AM
set_option linter.unusedSimpArgs false
set_option linter.unusedVariables false
set_option maxRecDepth 100000
def ZeC (s:Kc):Bool:=decide (s.node.id=zid)
theorem Zl9 (s:Kc):((cop .eql s.node.id.core 0)&&((cop .eql s.node.id.op 0)&&((cop .eql s.node.id.part 0)&&true)))=ZeC s:=by
 rw [Zs,VL]
 unfold ZeC
 rw [decide_eq_true_eq]
theorem s81 (s:Kc):g81 s.node.id.core s.node.id.op s.node.id.part (Zc s.node.path) s.node.cap.kind s.node.cap.base s.node.cap.bits s.node.cap.rights s.node.cap.width s.node.cap.level s.node.cap.device s.op s.lock.core s.lock.op s.lock.part=some (ZeC s):=by rw [Zvj,Zl9]
def lockS (ids:List Id) (by_:Id) (s:Kc):Kc:=if ZeC s=false∧ids.contains s.node.id=true then { s with lock:=by_ } else s
end Go.Proofs.YtjldbnbdcmfbmaaGreat
end

section
namespace Go.Proofs.YtjldbnbdcmfbmaaGreat
open Go Go.AM
set_option linter.unusedSimpArgs false
set_option linter.unusedVariables false
set_option maxRecDepth 100000
def ZxA (n:Yi) (s:Kc):Kc:={ s with node:=n }
theorem Zh1 {n:Yi} (h:ZO n=true):n.path.length≤8:=by
 simp only [ZO,Bool.and_eq_true,decide_eq_true_eq] at h
 exact h.1.2
theorem Zox (l:List Kc) (i:Nat) (n:Yi):Z0 (l.map Zh) i 0 (Jx n)=(l.modify i (ZxA n)).map Zh:=Zcw Zh (ZxA n) l i 0 _ fun _ _=>rfl
end Go.Proofs.YtjldbnbdcmfbmaaGreat
end

section
namespace Go.Proofs.YtjldbnbdcmfbmaaGreat
open Go Go.AM
set_option linter.unusedSimpArgs false
set_option linter.unusedVariables false
set_option maxRecDepth 100000
def rep (k e:Int) (m:Msg):Msg:=⟨k,0,0,m.frm,0,m.region,0,m.op,e,false,Z8,[],[],[],[],0,ZL,Zr,Zt⟩
theorem s13 (x n:Int) (h1:1≤n) (h2:n < 2^62):g13 x n=some (x % n):=by
 have e62:(2:Int)^62=4611686018427387904:=by decide
 have hm0:=Int.emod_nonneg x (show n≠0 by omega)
 have hm1:=Int.emod_lt_of_pos x (show 0 < n by omega)
 have ht:iop .rem .i64 x n=x.tmod n:=rfl
 rw [ZuP,if_neg (by simp only [CQ];omega),Zl (by omega),ht]
 have:=Int.tmod_eq_emod (a:=x) (b:=n)
 by_cases hd:0≤x∨n ∣ x
 ·rw [if_pos hd] at this
  rw [if_neg (by simp only [CQ];omega)]
  congr 1
  omega
 ·rw [if_neg hd] at this
  have habs:((n.natAbs:Nat):Int)=n:=by omega
  have hne:x % n≠0:=fun h=>hd (.inr (Int.dvd_of_emod_eq_zero h))
  rw [if_pos (by simp only [CQ];omega),J8 (by omega) (by omega)]
  congr 1
  omega
end Go.Proofs.YtjldbnbdcmfbmaaGreat
end

section
namespace Go.Proofs.YtjldbnbdcmfbmaaGreat
open Go Go.AM
set_option linter.unusedSimpArgs false
set_option linter.unusedVariables false
set_option maxRecDepth 100000
structure ZsU where
 root:Bool
 src:Int
 core:Int
 slot:Int
 kind:Int
 base:Int
 bits:Int
 count:Int
 rights:Int
 copy:Bool
def Za5 (s:ZsU):List AV:=[B s.root,I s.src,I s.core,I s.slot,I s.kind,I s.base,I s.bits,I s.count,I s.rights,B s.copy]
theorem Zu6:Tryz.prog.cellsOf 84=10:=by kernel_rfl
end Go.Proofs.YtjldbnbdcmfbmaaGreat
end

section
namespace Go.Proofs.YtjldbnbdcmfbmaaGreat
open Go Go.AM
set_option linter.unusedSimpArgs false
set_option linter.unusedVariables false
set_option maxRecDepth 100000
theorem ZAQ (a b:Int):Ztj a b=some (Zby a b):=by
 rw [Zse]
 simp only [Zxc,Option.bind_some]
 cases h:KX a b with
 | false => simp [Zby, h]
 | true =>
  obtain ⟨h1,h2,h3,h4,h5⟩:=ZbQ h
  have hw:IntKind.wrap .u64 b=b:=Ys (by omega) (by omega)
  simp only [Bool.not_true,Bool.false_eq_true,if_false,hw]
  rw [Zl (by omega),ZrL h]
theorem Zx3 (a b c d:Int):Zwf a b c d=some (Zua a b c d):=by
 rw [ZqY]
 simp only [Zxc,ZAQ,Option.bind_some]
 repeat' split
 all_goals (refine congrArg some ?_;rw [Zs];simp only [Zua,JL,JM,JR,JK,JO,JH,JF,JJ,JN,JI,JQ,JP,Bool.not_eq_true,Bool.not_eq_false,Bool.not_eq_true',Bool.not_eq_false',Bool.and_eq_true,Bool.or_eq_true,decide_eq_true_eq,decide_eq_false_iff_not,Bool.false_eq_true,Bool.true_eq_false,Option.bind_some,Option.some.injEq,false_iff,true_iff,iff_false,iff_true] at *; grind)
theorem ZA0 (a b c d:Int):ZzA a b c d=some (inB a b c d):=by
 rw [ZsI]
 simp only [Zxc,ZAQ,Option.bind_some]
 repeat' split
 all_goals (refine congrArg some ?_;rw [Zs];simp only [inB,JL,JM,JR,JK,JO,JH,JF,JJ,JN,JI,JQ,JP,Bool.not_eq_true,Bool.not_eq_false,Bool.not_eq_true',Bool.not_eq_false',Bool.and_eq_true,Bool.or_eq_true,decide_eq_true_eq,decide_eq_false_iff_not,Bool.false_eq_true,Bool.true_eq_false,Option.bind_some,Option.some.injEq,false_iff,true_iff,iff_false,iff_true] at *; grind)
theorem s86 (k b s r w l:Int) (d:Bool) (m:Int):g86 k b s r w l d m=some (k,b,s,iop .and .i64 r m,w,l,d):=ZtY ..
end Go.Proofs.YtjldbnbdcmfbmaaGreat
end

section
namespace Go.Proofs.YtjldbnbdcmfbmaaGreat
open Go Go.AM
set_option linter.unusedSimpArgs false
set_option linter.unusedVariables false
set_option maxRecDepth 100000
theorem l87 {b r w l k s:Int} {d fl:Bool} {lv wd bits sz off obj cnt:Int} (hb:0≤b) (hoff:0≤off) (hsz:0≤sz) (hc:cnt≤8) (hm:b+off+8*sz < 2^62):∀ (j i fuel:Nat),cnt=i+j→j < fuel→
  Vx fuel obj bits lv wd off cnt k b s r w l d fl sz (YW obj (b+off) sz bits r (if fl=true then wd else 0) (if fl=true then lv else 0) d i) i=some (YW obj (b+off) sz bits r (if fl=true then wd else 0) (if fl=true then lv else 0) d cnt.toNat,0):=by
 intro j
 have e62:(2:Int)^62=4611686018427387904:=by decide
 induction j with
 | zero =>
  intro i fuel h hf
  obtain ⟨f,rfl⟩:∃ f,fuel=f+1:=⟨fuel-1,by omega⟩
  rw [Zjx,if_neg (by simp only [JL,JM,JR,JK,JO,JH,JF,JJ,JN,JI,JQ,JP,Bool.not_eq_true,Bool.not_eq_false,Bool.not_eq_true',Bool.not_eq_false',Bool.and_eq_true,Bool.or_eq_true,decide_eq_true_eq,decide_eq_false_iff_not,Bool.false_eq_true,Bool.true_eq_false,Option.bind_some,Option.some.injEq,false_iff,true_iff,iff_false,iff_true];omega)]
  have:cnt.toNat=i:=by omega
  rw [this]
 | succ j ih =>
  intro i fuel h hf
  obtain ⟨f,rfl⟩:∃ f,fuel=f+1:=⟨fuel-1,by omega⟩
  have hsi:(i:Int)*sz≤8*sz:=Int.mul_le_mul_of_nonneg_right (by omega) hsz
  have hsi0:0≤(i:Int)*sz:=Int.mul_nonneg (by omega) hsz
  have a1:iop .add .i64 b off=b+off:=J8 (by omega) (by omega)
  have a2:iop .mul .i64 i sz=i*sz:=ZtZ (by omega) (by omega)
  have a3:iop .add .i64 (b+off) (i*sz)=b+off+i*sz:=J8 (by omega) (by omega)
  have a4:iop .add .i64 i 1=((i+1:Nat):Int):=by rw [J8 (by omega) (by omega)];omega
  have:=ih (i+1) f (by omega) (by omega)
  rw [Ze8] at this
  rw [Zjx,if_pos (by simp only [JL,JM,JR,JK,JO,JH,JF,JJ,JN,JI,JQ,JP,Bool.not_eq_true,Bool.not_eq_false,Bool.not_eq_true',Bool.not_eq_false',Bool.and_eq_true,Bool.or_eq_true,decide_eq_true_eq,decide_eq_false_iff_not,Bool.false_eq_true,Bool.true_eq_false,Option.bind_some,Option.some.injEq,false_iff,true_iff,iff_false,iff_true];omega)]
  cases fl
  ·simp only [Bool.false_eq_true,if_false] at this ⊢
   rw [Zl (Zl3 (by rw [ZbA];simp;omega)),a1,a2,a3,a4]
   exact this
  ·simp only [if_true] at this ⊢
   rw [Zl (Zl3 (by rw [ZbA];simp;omega)),a1,a2,a3,a4]
   exact this
set_option maxHeartbeats 4000000 in
theorem s87 (k b s r w l:Int) (d:Bool) (obj bits level width off cnt:Int):g87 k b s r w l d obj bits level width off cnt =
  some (Wa ⟨k,b,s,r,w,l,d⟩ obj bits level width off cnt,Zdk ⟨k,b,s,r,w,l,d⟩ obj bits level width off cnt):=by
 rw [Zv9]
 simp only [Zzh,ZAp,ZAx,Option.bind_some]
 by_cases hh:Yr ⟨k,b,s,r,w,l,d⟩=true∧k=1∧iop .and .i64 r 2≠0∧Vo obj bits=true∧(obj=3→Zbu width level=true)∧1≤cnt∧cnt≤8∧0≤off
 ·obtain ⟨h1,rfl,h3,h4,h5,h6,h7,h8⟩:=hh
  obtain ⟨n1,n2,n3,n4,n5,n6,n7,n8,n9,n10,n11,n12,n13,n14,n15,n16⟩:=Zo6 h1 h4 h6 h7 h8
  have q1:(ZA ((0:Int)≤bits):Option (List (List AV)×Int)→_)=fun x=>x:=Ziq n7
  have q2:(ZA ((2:Int)^bits.toNat≠0):Option (List (List AV)×Int)→_)=fun x=>x:=Ziq n6
  have hw1:IntKind.wrap .u64 bits=bits:=Ys n7 (by omega)
  have hw2:IntKind.wrap .u64 s=s:=Ys n8 (by simp only at n16;omega)
  have q3:(ZA ((0:Int)≤s):Option (List (List AV)×Int)→_)=fun x=>x:=Ziq n8
  simp only at n3 n5
  have loop:∀ fl:Bool,off+cnt*2^bits.toNat≤2^s.toNat→Vx ZE obj bits level width off cnt 1 b s r w l d fl (2^bits.toNat) [] 0=some (YW obj (b+off) (2^bits.toNat) bits r (if fl=true then width else 0) (if fl=true then level else 0) d cnt.toNat,0):=by
   intro fl hle
   have:=l87 (fl:=fl) (k:=1) (s:=s) (r:=r) (w:=w) (l:=l) (d:=d) (lv:=level) (wd:=width) (bits:=bits) (obj:=obj) (cnt:=cnt) n9 h8 (Int.le_of_lt n11) h7 (show b+off+8*2^bits.toNat < 2^62 by
    have e62:(2:Int)^62=4611686018427387904:=by decide
    simp only at n10
    omega) cnt.toNat 0 ZE (by omega) (Vk (by omega))
   exact this
  have n9':0≤b:=n9
  have n10':b+2^s.toNat≤1099511627776:=n10
  have n5':off≤2^s.toNat→iop .sub .i64 (2^s.toNat) off=2^s.toNat-off:=fun h=>Zh2 (by omega) (by omega)
  have hR:Zdk ⟨1,b,s,r,w,l,d⟩ obj bits level width off cnt=if d=true∧obj≠1∧obj≠2 then 5 else if off % 2^bits.toNat≠0∨2^s.toNat-cnt*2^bits.toNat < off∨(obj=1∧s≤bits) then 6 else 0:=by
   rw [Zdk,if_neg (by simp [h1]),if_neg h3,if_neg (by
    rintro (h | ⟨h,h'⟩ | h | h | h)
    ·rw [h4] at h;cases h
    ·rw [h5 h] at h';cases h'
    ·omega
    ·omega
    ·omega)]
  have hk1:cop .neq (1:Int) 1=false:=rfl
  simp only [hw1,hw2,n1,n2,n3,n4,q1,q2,q3,h1,h4,hk1,Bool.not_true,Bool.false_eq_true,if_false]
  clear n1 n2 n3 n4 n5 q1 q2 q3
  by_cases e5:d=true∧obj≠1∧obj≠2
  ·rw [if_pos e5] at hR
   obtain ⟨hd,e1,e2⟩:=e5
   repeat' (with_reducible refine JE (fun _=>?_) (fun _=>?_))
   all_goals first
    | exact ZhL (by decide) hR
    | (exfalso; simp only [JL, JM, JR, JK, JO, JH, JF, JJ, JN, JI, JQ, JP, Bool.not_eq_true, Bool.not_eq_false, Bool.not_eq_true', Bool.not_eq_false', Bool.and_eq_true, Bool.or_eq_true, decide_eq_true_eq, decide_eq_false_iff_not, Bool.false_eq_true, Bool.true_eq_false, Option.bind_some, Option.some.injEq, false_iff, true_iff, iff_false, iff_true] at *; first | omega | grind)
  ·rw [if_neg e5] at hR
   by_cases e6:off % 2^bits.toNat≠0∨2^s.toNat-cnt*2^bits.toNat < off∨(obj=1∧s≤bits)
   ·rw [if_pos e6] at hR
    repeat' (with_reducible refine JE (fun _=>?_) (fun _=>?_))
    all_goals first
     | exact ZhL (by decide) hR
     | (exfalso; simp only [JL, JM, JR, JK, JO, JH, JF, JJ, JN, JI, JQ, JP, Bool.not_eq_true, Bool.not_eq_false, Bool.not_eq_true', Bool.not_eq_false', Bool.and_eq_true, Bool.or_eq_true, decide_eq_true_eq, decide_eq_false_iff_not, Bool.false_eq_true, Bool.true_eq_false, Option.bind_some, Option.some.injEq, false_iff, true_iff, iff_false, iff_true] at *; rw [n5' (by omega)] at *; first | omega | grind)
     | (exfalso; simp only [JL, JM, JR, JK, JO, JH, JF, JJ, JN, JI, JQ, JP, Bool.not_eq_true, Bool.not_eq_false, Bool.not_eq_true', Bool.not_eq_false', Bool.and_eq_true, Bool.or_eq_true, decide_eq_true_eq, decide_eq_false_iff_not, Bool.false_eq_true, Bool.true_eq_false, Option.bind_some, Option.some.injEq, false_iff, true_iff, iff_false, iff_true] at *; first | omega | grind)
   ·rw [if_neg e6] at hR
    have hL:∀ fl,Vx ZE obj bits level width off cnt 1 b s r w l d fl (2^bits.toNat) [] 0=some (YW obj (b+off) (2^bits.toNat) bits r (if fl=true then width else 0) (if fl=true then level else 0) d cnt.toNat,0):=fun fl=>loop fl (by omega)
    have n5:=n5' (by omega)
    simp only [hL,Wa,hR,if_true,n5]
    have hfl:(cop .eql obj 3=true)=(obj=3):=by simp only [JL,JM,JR,JK,JO,JH,JF,JJ,JN,JI,JQ,JP,Bool.not_eq_true,Bool.not_eq_false,Bool.not_eq_true',Bool.not_eq_false',Bool.and_eq_true,Bool.or_eq_true,decide_eq_true_eq,decide_eq_false_iff_not,Bool.false_eq_true,Bool.true_eq_false,Option.bind_some,Option.some.injEq,false_iff,true_iff,iff_false,iff_true]
    simp only [hfl]
    repeat' (with_reducible refine JE (fun _=>?_) (fun _=>?_))
    all_goals first
     | rfl
     | (exfalso; simp only [JL, JM, JR, JK, JO, JH, JF, JJ, JN, JI, JQ, JP, Bool.not_eq_true, Bool.not_eq_false, Bool.not_eq_true', Bool.not_eq_false', Bool.and_eq_true, Bool.or_eq_true, decide_eq_true_eq, decide_eq_false_iff_not, Bool.false_eq_true, Bool.true_eq_false, Option.bind_some, Option.some.injEq, false_iff, true_iff, iff_false, iff_true] at *; first | omega | grind)
 ·repeat' (with_reducible refine JE (fun _=>?_) (fun _=>?_))
  all_goals first
   | exact ZhL (by decide) (by simp only [JL, JM, JR, JK, JO, JH, JF, JJ, JN, JI, JQ, JP, Bool.not_eq_true, Bool.not_eq_false, Bool.not_eq_true', Bool.not_eq_false', Bool.and_eq_true, Bool.or_eq_true, decide_eq_true_eq, decide_eq_false_iff_not, Bool.false_eq_true, Bool.true_eq_false, Option.bind_some, Option.some.injEq, false_iff, true_iff, iff_false, iff_true] at *; simp only [Zdk]; grind)
   | (exfalso; simp only [JL, JM, JR, JK, JO, JH, JF, JJ, JN, JI, JQ, JP, Bool.not_eq_true, Bool.not_eq_false, Bool.not_eq_true', Bool.not_eq_false', Bool.and_eq_true, Bool.or_eq_true, decide_eq_true_eq, decide_eq_false_iff_not, Bool.false_eq_true, Bool.true_eq_false, Option.bind_some, Option.some.injEq, false_iff, true_iff, iff_false, iff_true] at *; grind)
end Go.Proofs.YtjldbnbdcmfbmaaGreat
end

section
namespace Go.Proofs.YtjldbnbdcmfbmaaGreat
open Go Go.AM
set_option linter.unusedSimpArgs false
set_option linter.unusedVariables false
set_option maxRecDepth 100000
def Ret {α:Type} (P:α→Prop) (o:Option α):Prop:=∃ r,o=some r∧P r
theorem Zg {α:Type} {P:α→Prop} {a:α} (h:P a):Ret P (some a):=⟨a,rfl,h⟩
theorem Zb {α β:Type} {P:β→Prop} {Q:α→Prop} {o:Option α} {f:α→Option β} (h:Ret Q o) (k:∀ r,Q r→Ret P (f r)):Ret P (o.bind f):=by
 obtain ⟨r,rfl,hr⟩:=h
 exact k r hr
theorem Zk {α:Type} {P:α→Prop} {c:Prop} {_:Decidable c} {a b:Option α} (h1:c→Ret P a) (h2:¬ c→Ret P b):Ret P (if c then a else b):=by
 split
 ·exact h1 ‹_›
 ·exact h2 ‹_›
theorem Zn {α:Type} {P:α→Prop} {p:Prop} {_:Decidable p} {x:Option α} (h:p) (k:Ret P x):Ret P (ZA p x):=by
 rw [Zl h];exact k
theorem Zf {α:Type} {P:α→Prop} {a b:Option α} (h:a=b) (k:Ret P b):Ret P a:=h ▸ k
theorem Zkc {α:Type} {P Q:α→Prop} {o:Option α} (h:Ret P o) (k:∀ r,P r→Q r):Ret Q o:=by
 obtain ⟨r,e,hr⟩:=h
 exact ⟨r,e,k r hr⟩
theorem YM {α β:Type} {P:β→Prop} {o:Option α} {a:α} {f:α→Option β} (h:o=some a) (k:Ret P (f a)):Ret P (o.bind f):=by
 subst h;exact k
theorem Vc {σ γ:Type} {P:γ→Prop} {F:Nat→σ→Int→Option γ} {n:Nat} (J:Nat→σ→Prop) (hn:n < 2^63)
  (step:∀ (k i:Nat) (s:σ),i < n→J i s→(∀ s',J (i+1) s'→Ret P (F k s' ((i+1:Nat):Int)))→Ret P (F (k+1) s (i:Int)))
  (last:∀ (k:Nat) (s:σ),J n s→Ret P (F (k+1) s (n:Int))) (s:σ) (h:J 0 s):Ret P (F ZE s 0):=by
 have key:∀ (j i fuel:Nat) (s:σ),i+j=n→j < fuel→J i s→Ret P (F fuel s (i:Int)):=by
  intro j
  induction j with
  | zero =>
   intro i fuel s h hf hj
   obtain ⟨q,rfl⟩:∃ q,fuel=q+1:=⟨fuel-1,by omega⟩
   have:i=n:=by omega
   subst this
   exact last q s hj
  | succ j ih =>
   intro i fuel s h hf hj
   obtain ⟨q,rfl⟩:∃ q,fuel=q+1:=⟨fuel-1,by omega⟩
   exact step q i s (by omega) hj fun s' hs=>ih (i+1) q s' (by omega) (by omega) hs
 exact key n 0 ZE s (by omega) (by have:=Wv hn;omega) h
theorem place (x n:Int) (h1:1≤n) (h2:n < 2^62):Ret (fun r=>0≤r∧r < n) (g13 x n):=⟨_,s13 x n h1 h2,Int.emod_nonneg x (by omega),Int.emod_lt_of_pos x (by omega)⟩
theorem Zp (l:List Int) (z:Int):Ret (fun _=>True) (g21 (Za l) z):=by
 rw [Zp9]
 refine Zk (fun _=>Zg trivial) fun h1=>Zk (fun _=>Zg trivial) fun h2=>?_
 simp only [CQ,ZU] at h1 h2
 have e:z=((z.toNat:Nat):Int):=by omega
 have hl:z.toNat < l.length:=by omega
 have:=ZT (γ:=Int) hl (fun r=>some r)
 rw [← e] at this
 exact Zf this (Zg trivial)
theorem Zbv {γ:Type} {P:γ→Prop} {l:List Int} {z:Int} {k:Int→Option γ} (h0:0≤z) (h:z.toNat < l.length) (hk:Ret P (k l[z.toNat])):Ret P (Zj (Za l) z [.int .i64] k):=by
 have e:z=((z.toNat:Nat):Int):=by omega
 have:=ZT h k
 rw [← e] at this
 exact Zf this hk
theorem Kz {γ:Type} {P:γ→Prop} {l:List Zx} {z:Int} {k:ShsT Zc3→Option γ} (h0:0≤z) (h:z.toNat < l.length) (hk:Ret P (k (Yg l[z.toNat]))):Ret P (Zj (l.map Ze) z Zc3 k):=by
 have e:z=((z.toNat:Nat):Int):=by omega
 have:=Zo h k
 rw [← e] at this
 exact Zf this hk
def ZnR (c:Cap):List AV:=[I c.kind,I c.base,I c.bits,I c.rights,I c.width,I c.level,B c.device]
abbrev ZlM:List Sh:=[.int .i64,.int .i64,.int .i64,.int .i64,.int .i64,.int .i64,.bool]
def Zs2 (c:Cap):ShsT ZlM:=(c.kind,c.base,c.bits,c.rights,c.width,c.level,c.device)
theorem Zau {γ:Type} {l:List Cap} {i:Nat} (h:i < l.length) (k:ShsT ZlM→Option γ):Zj (l.map ZnR) (i:Int) ZlM k=k (Zs2 l[i]):=Yj (fun _=>rfl) h k
def atP {α:Type} (q:α→Bool) (p:List α) (i:Nat):Bool:=match p[i]? with | some x=>q x | none=>false
theorem Zez {α:Type} (q:α→Bool) {p:List α} {i:Nat} (h:i < p.length):atP q p i=q p[i]:=by unfold atP;rw [List.getElem?_eq_getElem h]
def idE (i:Id) (e:Zx):Bool:=decide (e.node.id=i)
def plE (c s:Int) (e:Zx):Bool:=decide (e.core=c)&&decide (e.slot=s)
theorem ZAG (l:List Zx) (hn:l.length < 2^63) (j:Id):ZwK (l.map Ze) j.core j.op j.part=some (Zie l.length (Ze5 (idE j) l)):=by
 rw [ZsS]
 exact ZgZ (F:=fun k z=>ZeB k (l.map Ze) j.core j.op j.part z) (n:=l.length) (fun m=>Zie l.length m) (atP (idE j) l) hn
  (fun k i hi=>by
   show ZeB (k+1) _ _ _ _ _=_
   rw [ZgY,List.length_map,if_pos (Jg hi)]
   refine (Zo hi _).trans ?_
   simp only [Yg,d2,d4,d8,d16]
   rw [Jd hi hn,Zez _ hi,Zh6 hi,idE]
   refine JE (fun h1=>?_) fun h1=>?_
   ·rw [if_pos (by rw [Yn] at h1;rw [decide_eq_true_eq];exact h1)]
   ·rw [if_neg (by rw [Yn] at h1;rw [decide_eq_true_eq];exact h1)])
  (fun k=>by
   show ZeB (k+1) _ _ _ _ _=_
   rw [ZgY,List.length_map,if_neg (Jh (Nat.le_refl _)),Zie,if_neg (Nat.lt_irrefl _)]) (Ze5 (idE j) l) (Zho _ l) (fun i hi=>by
    have hl:=Zho (idE j) l
    rw [Zez _ (by omega)];exact Zj6 _ l i (by omega) hi) (fun h=>by rw [Zez _ h];exact ZlA _ l h)
theorem ZBJ (l:List Zx) (hn:l.length < 2^63) (c s:Int):ZzN (l.map Ze) c s=some (Zie l.length (Ze5 (plE c s) l)):=by
 rw [Zq4]
 exact ZgZ (F:=fun k z=>Zdg k (l.map Ze) c s z) (n:=l.length) (fun m=>Zie l.length m) (atP (plE c s) l) hn
  (fun k i hi=>by
   show Zdg (k+1) _ _ _ _=_
   rw [ZfX,List.length_map,if_pos (Jg hi)]
   refine (Zo hi _).trans ?_
   simp only [Yg,d2,d4,d8,d16]
   rw [Jd hi hn,Zez _ hi,Zh6 hi,plE]
   refine JE (fun h1=>?_) fun h1=>?_
   ·simp only [CQ] at h1
    refine (Zo hi _).trans ?_
    simp only [Yg,d2,d4,d8,d16]
    refine JE (fun h2=>?_) fun h2=>?_
    ·simp only [CQ] at h2
     rw [if_pos (by simp [h1,h2])]
    ·simp only [CQ] at h2
     rw [if_neg (by simp [h2])]
   ·simp only [CQ] at h1
    rw [if_neg (by simp [h1])])
  (fun k=>by
   show Zdg (k+1) _ _ _ _=_
   rw [ZfX,List.length_map,if_neg (Jh (Nat.le_refl _)),Zie,if_neg (Nat.lt_irrefl _)]) (Ze5 (plE c s) l) (Zho _ l) (fun i hi=>by
    have hl:=Zho (plE c s) l
    rw [Zez _ (by omega)];exact Zj6 _ l i (by omega) hi) (fun h=>by rw [Zez _ h];exact ZlA _ l h)
structure Zs3 (l:List Zx):Prop where
 len:l.length≤100
 path:∀ e∈l,e.node.path.length≤20
theorem ZAi (l:List Zx) (h:Zs3 l):ZpV (l.map Ze)=some (l.map Ze):=by
 rw [ZsX]
 have hn:l.length < 2^63:=by have:=h.len;omega
 refine (Zrp (F:=fun k acc i=>Zd7 k (l.map Ze) acc i) l (fun r=>[Ze r]) hn (fun k i hi=>?_) (fun k acc i hi=>?_)).trans (by rw [Zi5])
 ·show Zd7 (k+1) _ _ _=_
  rw [Zf2,List.length_map,if_pos (Jg hi)]
  refine (Zo hi _).trans ?_
  simp only [Yg,d2,d4,d8,d16]
  refine (Zo hi _).trans ?_
  refine (Zo hi _).trans ?_
  have hp:=h.path l[i] (List.getElem_mem hi)
  simp only [Yg,d2,d4,d8,d16]
  rw [s25 l[i].node (by omega),Option.bind_some]
  refine (Zl (Zv ?_ (by omega)) _).trans ?_
  ·rw [Zi5]
   have:=h.len
   simp only [List.length_map,List.length_take,List.length_append,List.length_cons,List.length_nil]
   omega
  ·rw [Jd hi hn]
   rfl
 ·show Zd7 (k+1) _ _ _=_
  rw [Zf2,List.length_map,if_neg (Jh hi)]
def Zuf (l:List Zx) (x:Zx) (r:List Zx):Prop:=∃ i,i≤l.length∧(∀ j (h:j < l.length),j < i→lte x l[j]=false)∧(∀ h:i < l.length,lte x l[i]=true)∧l.any (idE x.node.id)=false∧l.any (plE x.core x.slot)=false∧r=l.take i++[x]++l.drop i
theorem Zp7 {α:Type} (q:α→Bool) (l:List α) (h:¬ cop .geq (Zie l.length (Ze5 q l)) 0=true):l.any q=false:=by
 rw [Zjs,decide_eq_true_eq] at h
 rw [List.any_eq_false]
 intro x hx
 obtain ⟨i,hi,rfl⟩:=List.getElem_of_mem hx
 have:=Zj6 q l i hi (by omega)
 simp [this]
theorem ZlQ {l m:List Zx} (h:Zs3 l) (hs:∀ e∈m,e∈l) (hl:m.length≤l.length):Zs3 m:=⟨by have:=h.len;omega,fun e he=>h.path e (hs e he)⟩
theorem ZBt (l:List Zx) (h:Zs3 l) (x:Zx) (hx:x.node.path.length≤20):Ret (fun r=>r=(E0,false)∨∃ m,Zuf l x m∧r=(m.map Ze,true)) (Zy2 (l.map Ze) x.core x.slot x.node.id.core x.node.id.op x.node.id.part (Zc x.node.path) x.node.cap.kind x.node.cap.base x.node.cap.bits x.node.cap.rights x.node.cap.width x.node.cap.level x.node.cap.device):=by
 have hn:l.length < 2^63:=by have:=h.len;omega
 rw [ZqJ,ZAG l hn x.node.id,Option.bind_some]
 refine Zk (fun _=>Zg (.inl rfl)) fun h1=>?_
 rw [ZBJ l hn,Option.bind_some]
 refine Zk (fun _=>Zg (.inl rfl)) fun h2=>?_
 have n1:=Zp7 _ _ h1
 have n2:=Zp7 _ _ h2
 have ins:∀ (i:Nat),i≤l.length→(∀ j (h:j < l.length),j < i→lte x l[j]=false)→(∀ h:i < l.length,lte x l[i]=true)→Ret (fun r=>r=(E0,false)∨∃ m,Zuf l x m∧r=(m.map Ze,true)) (ZA ((0:Int)≤(i:Int))<|ZA ((i:Int)≤(List.length (l.map Ze):Int))<|
   (ZpV (List.take (Int.toNat (i:Int)) (l.map Ze))).bind fun (r29:LL)=>(g25 x.node.id.core x.node.id.op x.node.id.part (Zc x.node.path) x.node.cap.kind x.node.cap.base x.node.cap.bits x.node.cap.rights x.node.cap.width x.node.cap.level x.node.cap.device).bind fun r30=>
   ZA (Ju r29 (E0++[[I x.core,I x.slot,I r30.1,I r30.2.1,I r30.2.2.1,AV.slice false 3 r30.2.2.2.1,I r30.2.2.2.2.1,I r30.2.2.2.2.2.1,I r30.2.2.2.2.2.2.1,I r30.2.2.2.2.2.2.2.1,I r30.2.2.2.2.2.2.2.2.1,I r30.2.2.2.2.2.2.2.2.2.1,AV.val (.bool r30.2.2.2.2.2.2.2.2.2.2)]]) 120)<|
   ZA ((0:Int)≤(i:Int))<|ZA ((i:Int)≤(List.length (l.map Ze):Int))<|(ZpV (List.drop (Int.toNat (i:Int)) (l.map Ze))).bind fun (r41:LL)=>
   ZA (Ju (r29++(E0++[[I x.core,I x.slot,I r30.1,I r30.2.1,I r30.2.2.1,AV.slice false 3 r30.2.2.2.1,I r30.2.2.2.2.1,I r30.2.2.2.2.2.1,I r30.2.2.2.2.2.2.1,I r30.2.2.2.2.2.2.2.1,I r30.2.2.2.2.2.2.2.2.1,I r30.2.2.2.2.2.2.2.2.2.1,AV.val (.bool r30.2.2.2.2.2.2.2.2.2.2)]])) r41 120)<|
   some (((r29++(E0++[[I x.core,I x.slot,I r30.1,I r30.2.1,I r30.2.2.1,AV.slice false 3 r30.2.2.2.1,I r30.2.2.2.2.1,I r30.2.2.2.2.2.1,I r30.2.2.2.2.2.2.1,I r30.2.2.2.2.2.2.2.1,I r30.2.2.2.2.2.2.2.2.1,I r30.2.2.2.2.2.2.2.2.2.1,AV.val (.bool r30.2.2.2.2.2.2.2.2.2.2)]]))++r41),true)):=by
  intro i hi hlo hhi
  have hl:=h.len
  refine Zn (by omega) (Zn (by rw [List.length_map];omega) ?_)
  rw [Int.toNat_natCast,← List.map_take,← List.map_drop,ZAi _ (ZlQ h (fun e he=>List.mem_of_mem_take he) (by simp;omega)),Option.bind_some,s25 x.node (by omega),Option.bind_some]
  refine Zn (Zv (by simp;omega) (by omega)) (Zn (by omega) (Zn (by rw [List.length_map];omega) ?_))
  rw [ZAi _ (ZlQ h (fun e he=>List.mem_of_mem_drop he) (by simp)),Option.bind_some]
  refine Zn (Zv (by simp;omega) (by omega)) (Zg (.inr ⟨_,⟨i,hi,hlo,hhi,n1,n2,rfl⟩,?_⟩))
  simp [Ze,Zkq]
 refine Vc (F:=fun k (_:Unit) z=>Zd3 k (l.map Ze) x.core x.slot x.node.id.core x.node.id.op x.node.id.part (Zc x.node.path) x.node.cap.kind x.node.cap.base x.node.cap.bits x.node.cap.rights x.node.cap.width x.node.cap.level x.node.cap.device z) (n:=l.length) (fun i _=>∀ j (h:j < l.length),j < i→lte x l[j]=false) hn (fun k i _ hi hJ ih=>?_) (fun k _ hJ=>?_) () (fun j _ h0=>absurd h0 (Nat.not_lt_zero _))
 ·show Ret _ (Zd3 (k+1) _ _ _ _ _ _ _ _ _ _ _ _ _ _ _)
  rw [Zf5,List.length_map,if_pos (Jg hi)]
  refine Zf (Zo hi _) ?_
  simp only [Yg,d2,d4,d8,d16]
  rw [s82,Option.bind_some]
  refine Zk (fun hc=>?_) fun hc=>?_
  ·rw [Jd hi hn]
   refine ih () fun j h1 h2=>?_
   by_cases hji:j < i
   ·exact hJ j h1 hji
   ·have:j=i:=by omega
    subst this
    rw [Bool.not_eq_true'] at hc
    exact hc
  ·have:=ins i (by omega) hJ fun _=>by rw [Bool.not_eq_true',Bool.not_eq_false] at hc;exact hc
   rw [List.length_map] at this
   exact this
 ·show Ret _ (Zd3 (k+1) _ _ _ _ _ _ _ _ _ _ _ _ _ _ _)
  rw [Zf5,List.length_map,if_neg (Jh (Nat.le_refl _))]
  have:=ins l.length (Nat.le_refl _) hJ fun h=>absurd h (Nat.lt_irrefl _)
  rw [List.length_map] at this
  exact this
theorem s85 (l:List Zx) (h:Zs3 l) (x:Zx) (hx:x.node.path.length≤20):Ret (fun r=>∃ m,(m=l∨Zuf l x m)∧r=m.map Ze) (g85 (l.map Ze) x.core x.slot x.node.id.core x.node.id.op x.node.id.part (Zc x.node.path) x.node.cap.kind x.node.cap.base x.node.cap.bits x.node.cap.rights x.node.cap.width x.node.cap.level x.node.cap.device):=by
 rw [ZvT]
 refine Zb (ZBt l h x hx) fun r hr=>?_
 rcases hr with rfl | ⟨m,hm,rfl⟩
 ·exact Zk (fun _=>Zg ⟨l,.inl rfl,rfl⟩) fun h=>absurd rfl h
 ·exact Zk (fun h=>absurd h (by simp)) fun _=>Zg ⟨m,.inr hm,rfl⟩
structure ZnH (s:Yi) (i:Id) (c:Cap):Prop where
 src:ZO s=true
 id:K3 i=true
 cap:Yr c=true
 ne:i≠s.id
 fresh:s.path.contains i=false
 room:s.path.length < 8
def Zdi (s:Yi) (i:Id) (c:Cap):Yi:=⟨i,s.path++[s.id],c⟩
theorem s88 (s:Yi) (hs:s.path.length≤20) (i:Id) (c:Cap):Ret (fun r=>(∃ e:Int,e≠0∧r=(0,0,0,E0,0,0,0,0,0,0,false,e))∨(ZnH s i c∧r=(i.core,i.op,i.part,Zc (s.path++[s.id]),c.kind,c.base,c.bits,c.rights,c.width,c.level,c.device,0)))
  (g88 s.id.core s.id.op s.id.part (Zc s.path) s.cap.kind s.cap.base s.cap.bits s.cap.rights s.cap.width s.cap.level s.cap.device i.core i.op i.part c.kind c.base c.bits c.rights c.width c.level c.device):=by
 rw [Zvq,s61 s (by omega),Option.bind_some]
 refine Zk (fun _=>Zg (.inl ⟨1,by omega,rfl⟩)) fun h1=>?_
 rw [Zyt,Option.bind_some]
 refine Zk (fun _=>Zg (.inl ⟨1,by omega,rfl⟩)) fun h2=>?_
 rw [Zzh,Option.bind_some]
 refine Zk (fun _=>Zg (.inl ⟨1,by omega,rfl⟩)) fun h3=>?_
 refine Zk (fun _=>Zg (.inl ⟨1,by omega,rfl⟩)) fun h4=>?_
 rw [Yn] at h4
 rw [s78 s.path (by omega),Option.bind_some]
 refine Zk (fun _=>Zg (.inl ⟨1,by omega,rfl⟩)) fun h5=>?_
 refine Zk (fun _=>Zg (.inl ⟨9,by omega,rfl⟩)) fun h6=>?_
 rw [s76 s.path (by omega),Option.bind_some]
 refine Zn (Zv (by rw [ZY];simp;omega) (by omega)) (Zg (.inr ⟨?_,?_⟩))
 ·simp only [Bool.not_eq_true',Bool.not_eq_false] at h1 h2 h3
  simp only [Bool.not_eq_true] at h5
  have h8:=Zh1 h1
  simp only [CQ,ZY] at h6
  exact ⟨h1,h2,h3,h4,h5,by omega⟩
 ·simp [Zc,idc]
end Go.Proofs.YtjldbnbdcmfbmaaGreat
end

section
namespace Go.Proofs.YtjldbnbdcmfbmaaGreat
open Go Go.AM
set_option linter.unusedSimpArgs false
set_option linter.unusedVariables false
set_option maxRecDepth 100000
theorem Zuw {a b:Int} (h0:0≤b) (h1:b≤62) (h2:0≤a) (h3:a*2^b.toNat < 2^63):iop .shl .i64 a b=a*2^b.toNat:=by
 have hmin:min b.toNat IntKind.i64.bits=b.toNat:=by
  have:IntKind.i64.bits=64:=rfl
  omega
 simp only [iop,hmin]
 have hp:=J2 b.toNat
 have:0≤a*2^b.toNat:=Int.mul_nonneg h2 (by omega)
 rw [Zbf (by omega) h3]
theorem ZBX (a b:Int):Ret (fun r=>∃ k q:Int,r=(q*2^k.toNat,k)∧6≤k∧k≤16∧0≤q∧q < 2^(16-k).toNat) (Zx2 a b):=by
 rw [Zrh]
 refine Zb (place b 11 (by omega) (by omega)) fun x hx=>?_
 obtain ⟨k,hk⟩:∃ k,k=6+x:=⟨_,rfl⟩
 have e1:iop .add .i64 6 x=k:=by rw [J8 (by omega) (by omega),hk]
 have e2:iop .sub .i64 16 k=16-k:=Zh2 (by omega) (by omega)
 have w1:IntKind.wrap .u64 (16-k)=16-k:=Ys (by omega) (by omega)
 have w2:IntKind.wrap .u64 k=k:=Ys (by omega) (by omega)
 have hp:(2:Int)^(16-k).toNat < 2^62:=by
  have:=Zm7 (m:=(16-k).toNat) (n:=16) (by omega)
  have e:(2:Int)^16=65536:=by decide
  have e:(2:Int)^62=4611686018427387904:=by decide
  omega
 have hp1:=J2 (16-k).toNat
 rw [e1,e2,w1,w2,Zta (by omega)]
 refine Zn (by omega) (Zb (place a _ (by omega) hp) fun q hq=>Zn (by omega) (Zg ⟨k,q,?_,by omega,by omega,hq.1,hq.2⟩))
 have hm:q*2^k.toNat < 2^63:=by
  have h1:q*2^k.toNat≤2^(16-k).toNat*2^k.toNat:=Int.mul_le_mul_of_nonneg_right (by omega) (by have:=J2 k.toNat;omega)
  rw [← Int.pow_add,show (16-k).toNat+k.toNat=16 by omega] at h1
  have e:(2:Int)^16=65536:=by decide
  have e:(2:Int)^63=9223372036854775808:=by decide
  omega
 rw [Zuw (by omega) (by omega) hq.1 hm]
theorem s83 (a b:Int):Ret (fun r=>∃ c:Cap,r=Zs2 c∧Yr c=true) (g83 a b):=by
 rw [Zuv]
 refine Zb (ZBX a b) fun r ⟨k,q,hr,h1,h2,h3,h4⟩=>?_
 subst hr
 refine Zg ⟨⟨1,q*2^k.toNat,k,7,0,0,false⟩,rfl,?_⟩
 have hm:(q+1)*2^k.toNat≤65536:=by
  have h5:(q+1)*2^k.toNat≤2^(16-k).toNat*2^k.toNat:=Int.mul_le_mul_of_nonneg_right (by omega) (by have:=J2 k.toNat;omega)
  rw [← Int.pow_add,show (16-k).toNat+k.toNat=16 by omega] at h5
  have e:(2:Int)^16=65536:=by decide
  omega
 rw [Int.add_mul,Int.one_mul] at hm
 have h6:0≤q*2^k.toNat:=Int.mul_nonneg h3 (by have:=J2 k.toNat;omega)
 have h7:q*2^k.toNat % 2^k.toNat=0:=Int.mul_emod_left ..
 simp [Yr,Vo,KX,h6,h7]
 omega
theorem Zob (c:Cap) (obj bits level width off cnt:Int):∃ cs:List Cap,Wa c obj bits level width off cnt=cs.map ZnR∧(cs.length:Int)≤max 0 cnt:=by
 unfold Wa
 split
 ·refine ⟨(List.range cnt.toNat).map fun (j:Nat)=>⟨obj,c.base+off+(j:Int)*2^bits.toNat,bits,c.rights,if obj=3 then width else 0,if obj=3 then level else 0,c.device⟩,?_,by simp;omega⟩
  rw [List.map_map];rfl
 ·exact ⟨[],rfl,by simp;omega⟩
theorem l84 (rec0:List V→Option Bool) (l:List Zx) (hn:l.length < 2^63) (cs:List Cap) (m i:Nat) (hi:i < cs.length) (ih':Ret (fun _=>True) (rec0 [.l (l.map Ze),.l (cs.map ZnR),.i (Zie l.length m),.i (iop .add .i64 (i:Int) 1)])) :
  Ret (fun _=>True) (Zci rec0 ZE (l.map Ze) (cs.map ZnR) (Zie l.length m) (i:Int) 0):=by
 refine Vc (P:=fun _=>True) (F:=fun k2 (_:Unit) z=>Zci rec0 k2 (l.map Ze) (cs.map ZnR) (Zie l.length m) (i:Int) z) (n:=l.length) (fun _ _=>True) hn (fun k2 t _ ht _ ih2=>?_) (fun k2 _ _=>?_) () trivial
 ·show Ret _ (Zci _ (k2+1) _ _ _ _ _)
  rw [Zj2,List.length_map,if_pos (Jg ht)]
  refine Zf (Zo ht _) ?_
  simp only [Yg,d2,d4,d8,d16]
  have nxt:Ret (fun _=>True) (Zci rec0 k2 (l.map Ze) (cs.map ZnR) (Zie l.length m) (i:Int) (iop .add .i64 (t:Int) 1)):=by rw [Jd ht hn];exact ih2 () trivial
  refine Zk (fun h1=>?_) fun h1=>?_
  ·rw [Zjs,decide_eq_true_eq] at h1
   refine Zk (fun h2=>?_) fun h2=>?_
   ·rw [Zqb,Option.bind_some]
    refine Zf (congrArg (fun z=>Zj (l.map Ze) z _ _) (Zh6 h1)) ?_
    refine Zf (Zo h1 _) ?_
    simp only [Yg,d2,d4,d8,d16]
    rw [Zqb,Option.bind_some,ZA0,Option.bind_some,Option.bind_some]
    refine Zf (Zau hi _) ?_
    simp only [Zs2]
    rw [Zqb,Option.bind_some,Zx3,Option.bind_some]
    exact Zk (fun _=>Zk (fun _=>Zg trivial) fun _=>nxt) fun _=>nxt
   ·rw [Zqb,Option.bind_some]
    refine Zf (Zau hi _) ?_
    simp only [Zs2]
    rw [Zqb,Option.bind_some,Zx3,Option.bind_some]
    exact Zk (fun _=>Zg trivial) fun _=>nxt
  ·rw [Zqb,Option.bind_some]
   refine Zf (Zau hi _) ?_
   simp only [Zs2]
   rw [Zqb,Option.bind_some,Zx3,Option.bind_some]
   exact Zk (fun _=>Zg trivial) fun _=>nxt
 ·show Ret _ (Zci _ (k2+1) _ _ _ _ _)
  rw [Zj2,List.length_map,if_neg (Jh (Nat.le_refl _))]
  exact ih'
theorem s84 (l:List Zx) (hn:l.length < 2^63) (j:Id) (cs:List Cap) (hc:cs.length < 2^63):Ret (fun _=>True) (g84 (l.map Ze) j.core j.op j.part (cs.map ZnR)):=by
 rw [ZvU,ZAG l hn j,Option.bind_some]
 generalize hm:Ze5 (idE j) l=m
 refine Vc (F:=fun k (_:Unit) z=>ZnB k (l.map Ze) (cs.map ZnR) (Zie l.length m) z) (n:=cs.length) (fun _ _=>True) hc (fun k i _ hi _ ih=>?_) (fun k _ _=>?_) () trivial
 ·show Ret _ (ZnB (k+1) _ _ _ _)
  rw [Zj7,List.length_map,if_pos (Jg hi)]
  exact l84 _ l hn cs m i hi (by rw [Jd hi hc];exact ih () trivial)
 ·show Ret _ (ZnB (k+1) _ _ _ _)
  rw [Zj7,List.length_map,if_neg (Jh (Nat.le_refl _))]
  exact Zg trivial
structure EOk (e:Zx):Prop where
 c0:0≤e.core
 c1:e.core < 4
 s0:0≤e.slot
 s1:e.slot < 16
 ic:e.node.id.core=e.core
 o1:1≤e.node.id.op
 o2:e.node.id.op≤40
 p0:0≤e.node.id.part
 p1:e.node.id.part < 3
 ok:ZO e.node=true
structure FOk (l:List Zx) (n:Nat):Prop where
 len:l.length≤n
 all:∀ e∈l,EOk e
 asc:l.Pairwise fun a b=>lte a b=true
theorem JX {n:Yi} (h:ZO n=true):K3 n.id=true∧Yr n.cap=true∧n.path.length≤8∧(List.range n.path.length).all (KO n)=true:=by
 simp only [ZO,Bool.and_eq_true,decide_eq_true_eq] at h
 exact ⟨h.1.1.1,h.1.1.2,h.1.2,h.2⟩
theorem FOk.few {l:List Zx} {n:Nat} (h:FOk l n) (hn:n≤100):Zs3 l:=⟨by have:=h.len;omega,fun e he=>by have:=(JX (h.all e he).ok).2.2.1;omega⟩
theorem ZgT {a b:Zx} : lte a b=true↔(a.node.id.core < b.node.id.core∨(a.node.id.core=b.node.id.core∧(a.node.id.op < b.node.id.op∨(a.node.id.op=b.node.id.op∧a.node.id.part < b.node.id.part)))):=by simp [lte,Zw6,Zs5]
theorem ZlG {a b c:Zx} (h1:lte a b=true) (h2:lte b c=true):lte a c=true:=by
 rw [ZgT] at *; omega
theorem Zmt {a b:Zx} (h:lte a b=false) (hne:a.node.id≠b.node.id):lte b a=true:=by
 rw [← Bool.not_eq_true,ZgT] at h
 rw [ZgT]
 have:¬ (a.node.id.core=b.node.id.core∧a.node.id.op=b.node.id.op∧a.node.id.part=b.node.id.part):=fun ⟨e1,e2,e3⟩=>hne (by cases ha:a.node.id;cases hb:b.node.id;simp_all)
 omega
theorem Zn6 {l m:List Zx} {x:Zx} (h:l.Pairwise fun a b=>lte a b=true) (ha:Zuf l x m):m.Pairwise fun a b=>lte a b=true:=by
 obtain ⟨i,hi,hlo,hhi,hid,_,rfl⟩:=ha
 have hge:∀ j (hj:j < l.length),i≤j→lte x l[j]=true:=by
  intro j hj hij
  have h1:lte x (l[i]'(by omega))=true:=hhi (by omega)
  by_cases hji:j=i
  ·subst hji;exact h1
  ·exact ZlG h1 (List.pairwise_iff_getElem.1 h i j (by omega) hj (by omega))
 rw [List.pairwise_append,List.pairwise_append]
 refine ⟨⟨h.take,List.pairwise_singleton ..,fun a ha b hb=>?_⟩,h.drop,fun a ha b hb=>?_⟩
 ·rw [List.mem_singleton] at hb
  subst hb
  obtain ⟨j,hj,rfl⟩:=List.getElem_of_mem ha
  rw [List.length_take] at hj
  rw [List.getElem_take]
  refine Zmt (hlo j (by omega) (by omega)) fun he=>?_
  rw [List.any_eq_false] at hid
  have:=hid _ (List.getElem_mem (show j < l.length by omega))
  rw [idE,decide_eq_true_eq] at this
  exact this he.symm
 ·obtain ⟨k,hk,rfl⟩:=List.getElem_of_mem hb
  rw [List.length_drop] at hk
  rw [List.getElem_drop]
  rw [List.mem_append,List.mem_singleton] at ha
  rcases ha with ha | rfl
  ·obtain ⟨j,hj,rfl⟩:=List.getElem_of_mem ha
   rw [List.length_take] at hj
   rw [List.getElem_take]
   exact List.pairwise_iff_getElem.1 h j (i+k) (by omega) (by omega) (by omega)
  ·exact hge (i+k) (by omega) (by omega)
theorem Zl2 {l m:List Zx} {x:Zx} {n:Nat} (h:FOk l n) (hx:EOk x) (ha:m=l∨Zuf l x m):FOk m (n+1):=by
 rcases ha with rfl | ha
 ·exact ⟨by have:=h.len;omega,h.all,h.asc⟩
 ·have hasc:=Zn6 h.asc ha
  obtain ⟨i,hi,_,_,_,_,rfl⟩:=ha
  refine ⟨by have:=h.len;simp;omega,fun e he=>?_,hasc⟩
  simp only [List.mem_append,List.mem_singleton] at he
  rcases he with (he | rfl) | he
  ·exact h.all e (List.mem_of_mem_take he)
  ·exact hx
  ·exact h.all e (List.mem_of_mem_drop he)
theorem Znj (i:Id) (c:Cap) (hi:K3 i=true) (hc:Yr c=true):ZO ⟨i,[],c⟩=true:=by simp [ZO,hi,hc]
theorem ZjQ {s:Yi} {i:Id} {c:Cap} (h:ZnH s i c):ZO (Zdi s i c)=true:=by
 obtain ⟨k1,k2,k3,k4⟩:=JX h.src
 have hr:=h.room
 simp only [ZO,Zdi,Bool.and_eq_true,decide_eq_true_eq,h.id,h.cap,true_and,List.length_append,List.length_cons,List.length_nil]
 refine ⟨by omega,?_⟩
 rw [List.all_eq_true] at k4 ⊢
 intro j hj
 rw [List.mem_range] at hj
 by_cases hjl:j < s.path.length
 ·have:=k4 j (List.mem_range.2 hjl)
  simp only [KO,List.getElem?_eq_getElem hjl] at this
  simp only [KO,List.getElem?_append_left hjl,List.getElem?_eq_getElem hjl,List.take_append_of_le_length (Nat.le_of_lt hjl)]
  simp only [Bool.and_eq_true,decide_eq_true_eq] at this ⊢
  refine ⟨⟨this.1.1,fun he=>?_⟩,this.2⟩
  have hf:=h.fresh
  rw [← he] at hf
  simp at hf
 ·have hje:j=s.path.length:=by omega
  subst hje
  simp only [KO,List.getElem?_append_right (Nat.le_refl _),Nat.sub_self,List.getElem?_cons_zero,List.take_left]
  simp only [Bool.and_eq_true,decide_eq_true_eq]
  refine ⟨⟨k1,fun he=>h.ne he.symm⟩,?_⟩
  rw [Bool.not_eq_true',← Bool.not_eq_true,List.contains_iff_mem]
  intro hm
  obtain ⟨t,ht,hte⟩:=List.getElem_of_mem hm
  have:=k4 t (List.mem_range.2 ht)
  simp only [KO,List.getElem?_eq_getElem ht,hte] at this
  simp at this
theorem l31 (src:Yi) (hs:src.path.length≤20) (root:Bool) (op core slot:Int) (hc0:0≤core) (hc1:core < 4) (hs0:0≤slot) (hs1:slot < 8) (h1:1≤op) (h2:op≤40) (cs:List Cap) (hcs:cs.length≤3) (l:List Zx) (n:Nat) (hn:n≤60) (h:FOk l n) :
  Ret (fun r=>∃ m,FOk m (n+3)∧r=m.map Ze) (ZgM ZE (l.map Ze) op core slot src.id.core src.id.op src.id.part (Zc src.path) src.cap.kind src.cap.base src.cap.bits src.cap.rights src.cap.width src.cap.level src.cap.device (cs.map ZnR) 0):=by
 refine Vc (F:=fun k (s:LL) z=>ZgM k s op core slot src.id.core src.id.op src.id.part (Zc src.path) src.cap.kind src.cap.base src.cap.bits src.cap.rights src.cap.width src.cap.level src.cap.device (cs.map ZnR) z) (n:=cs.length) (fun i s=>∃ m,FOk m (n+i)∧s=m.map Ze) (by omega) (fun k i s hi hj ih=>?_) (fun k s hj=>?_) _ ⟨l,h,rfl⟩
 ·obtain ⟨m,hm,rfl⟩:=hj
  show Ret _ (ZgM (k+1) _ _ _ _ _ _ _ _ _ _ _ _ _ _ _ _ _)
  rw [Zjc,List.length_map,if_pos (Jg hi)]
  refine Zf (Zau hi _) ?_
  simp only [Zs2]
  refine Zb (s88 src hs ⟨core,op,(i:Int)⟩ cs[i]) fun r hr=>?_
  rcases hr with ⟨e,he,rfl⟩ | ⟨hk,rfl⟩
  ·refine Zk (fun _=>Zg ⟨m,⟨by have:=hm.len;omega,hm.all,hm.asc⟩,rfl⟩) fun hh=>?_
   simp only [CQ] at hh
   exact absurd hh (by omega)
  ·refine Zk (fun hh=>absurd hh (by simp [cop])) fun _=>?_
   have ho:=JX (ZjQ hk)
   have hx:EOk ⟨core,slot+i,Zdi src ⟨core,op,(i:Int)⟩ cs[i]⟩:=⟨hc0,hc1,by show 0≤slot+i;omega,by show slot+i < 16;omega,rfl,h1,h2,by show (0:Int)≤i;omega,by show (i:Int) < 3;omega,ZjQ hk⟩
   have ea:iop .add .i64 slot (i:Int)=slot+i:=J8 (by omega) (by omega)
   rw [ea]
   refine Zb (s85 m (hm.few (by omega)) ⟨core,slot+i,Zdi src ⟨core,op,(i:Int)⟩ cs[i]⟩ (by have:=ho.2.2.1;show (Zdi src ⟨core,op,(i:Int)⟩ cs[i]).path.length≤20;omega)) fun r ⟨m',hm',hr⟩=>?_
   subst hr
   rw [Jd hi (by omega)]
   exact ih _ ⟨m',Zl2 hm hx hm',rfl⟩
 ·obtain ⟨m,hm,rfl⟩:=hj
  show Ret _ (ZgM (k+1) _ _ _ _ _ _ _ _ _ _ _ _ _ _ _ _ _)
  rw [Zjc,List.length_map,if_neg (Jh (Nat.le_refl _))]
  exact Zg ⟨m,⟨by have:=hm.len;omega,hm.all,hm.asc⟩,rfl⟩
theorem ZAF (l:List Zx) (n:Nat) (hn:n≤60) (h:FOk l n) (core slot op base bits:Int) (hc0:0≤core) (hc1:core < 4) (hs0:0≤slot) (hs1:slot < 8) (h1:1≤op) (h2:op≤40) :
    Ret (fun r=>∃ m,FOk m (n+3)∧r=m.map Ze) ((g83 base bits).bind fun r14=>
 (g84 (l.map Ze) 0 0 0 (E0++[[I r14.1,I r14.2.1,I r14.2.2.1,I r14.2.2.2.1,I r14.2.2.2.2.1,I r14.2.2.2.2.2.1,AV.val (.bool r14.2.2.2.2.2.2)]])).bind fun (r21:Bool)=>
 if r21=true then some (l.map Ze) else
 (g85 (l.map Ze) core slot core op 0 E0 r14.1 r14.2.1 r14.2.2.1 r14.2.2.2.1 r14.2.2.2.2.1 r14.2.2.2.2.2.1 r14.2.2.2.2.2.2).bind fun (r22:LL)=>some (r22)):=by
  refine Zb (s83 base bits) fun r ⟨c,hr,hc⟩=>?_
  subst hr
  have hl:=h.len
  refine Zb (s84 l (by omega) ⟨0,0,0⟩ [c] (by simp)) fun b _=>?_
  refine Zk (fun _=>Zg ⟨l,⟨by omega,h.all,h.asc⟩,rfl⟩) fun _=>?_
  have hi:K3 ⟨core,op,0⟩=true:=by simp [K3];omega
  have hx:EOk ⟨core,slot,⟨⟨core,op,0⟩,[],c⟩⟩:=⟨hc0,hc1,hs0,by show slot < 16;omega,rfl,h1,h2,Int.le_refl _,by show (0:Int) < 3;omega,Znj _ _ hi hc⟩
  refine Zb (s85 l (h.few (by omega)) ⟨core,slot,⟨⟨core,op,0⟩,[],c⟩⟩ (by simp)) fun r ⟨m',hm',hr⟩=>?_
  subst hr
  have:=Zl2 h hx hm'
  exact Zg ⟨m',⟨by have:=this.len;omega,this.all,this.asc⟩,rfl⟩
theorem s31 (l:List Zx) (n:Nat) (hn:n≤60) (h:FOk l n) (root copy:Bool) (src core slot kind base bits count rights op:Int) (h1:1≤op) (h2:op≤40) :
  Ret (fun r=>∃ m,FOk m (n+3)∧r=m.map Ze) (g31 (l.map Ze) root src core slot kind base bits count rights copy op):=by
 have hl:=h.len
 rw [Zuo]
 refine Zb (place core 4 (by omega) (by omega)) fun c hc=>Zb (place slot 8 (by omega) (by omega)) fun s hs=>?_
 refine Zk (fun _=>ZAF l n hn h c s op base bits hc.1 hc.2 hs.1 hs.2 h1 h2) fun _=>?_
 refine Zk (fun _=>ZAF l n hn h c s op base bits hc.1 hc.2 hs.1 hs.2 h1 h2) fun h3=>?_
 simp only [CQ,List.length_map] at h3
 rw [List.length_map]
 refine Zb (place src _ (by omega) (by omega)) fun i hi=>?_
 have hil:i.toNat < l.length:=by omega
 refine Kz hi.1 hil ?_
 simp only [Yg,d2,d4,d8,d16]
 have he:=h.all _ (List.getElem_mem hil)
 have ho:=JX he.ok
 generalize l[i.toNat]=e at he ho
 refine Zb (place rights 8 (by omega) (by omega)) fun r28 _=>?_
 rw [s86,Option.bind_some]
 refine Zk (fun _=>?_) fun _=>?_
 ·refine Zb (place kind 6 (by omega) (by omega)) fun r36 h36=>Zb (place bits 10 (by omega) (by omega)) fun r37 h37=>?_
  have e1:iop .add .i64 6 r37=6+r37:=J8 (by omega) (by omega)
  have e2:iop .sub .i64 (iop .add .i64 1 r36) 1=r36:=by rw [J8 (by omega) (by omega),Zh2 (by omega) (by omega)];omega
  rw [e1,e2]
  refine Zbv (l:=[6+r37,12,12,6,10,16]) h36.1 (by simp;omega) ?_
  have hb:∀ x∈[6+r37,12,12,6,10,16],0≤x∧x≤16:=by
   intro x hx
   simp only [List.mem_cons,List.not_mem_nil,or_false] at hx
   omega
  have hb':=hb _ (List.getElem_mem (show r36.toNat < [6+r37,12,12,6,10,16].length by simp;omega))
  generalize [6+r37,12,12,6,10,16][r36.toNat]'(by simp;omega)=r38 at hb'
  refine Zb (place rights 2 (by omega) (by omega)) fun r39 _=>Zb (place base 8 (by omega) (by omega)) fun r40 _=>?_
  refine Zn (by rw [Ys (by omega) (by omega)];omega) (Zb (place count 3 (by omega) (by omega)) fun r41 h41=>?_)
  rw [s87,Option.bind_some]
  refine Zk (fun _=>Zg ⟨l,⟨by omega,h.all,h.asc⟩,rfl⟩) fun _=>?_
  obtain ⟨cs,hcs,hcl⟩:=Zob ⟨e.node.cap.kind,e.node.cap.base,e.node.cap.bits,e.node.cap.rights,e.node.cap.width,e.node.cap.level,e.node.cap.device⟩ (iop .add .i64 1 r36) r38 r39 32 (iop .shl .i64 r40 (IntKind.wrap .u64 r38)) (iop .add .i64 1 r41)
  rw [hcs]
  have e3:iop .add .i64 1 r41=1+r41:=J8 (by omega) (by omega)
  rw [e3] at hcl
  refine Zb (s84 l (by omega) e.node.id cs (by omega)) fun b _=>?_
  refine Zk (fun _=>Zg ⟨l,⟨by omega,h.all,h.asc⟩,rfl⟩) fun _=>?_
  exact l31 e.node (by omega) true op c s hc.1 hc.2 hs.1 hs.2 h1 h2 cs (by omega) l n hn h
 ·exact l31 e.node (by omega) true op c s hc.1 hc.2 hs.1 hs.2 h1 h2 [⟨e.node.cap.kind,e.node.cap.base,e.node.cap.bits,iop .and .i64 e.node.cap.rights r28,e.node.cap.width,e.node.cap.level,e.node.cap.device⟩] (by simp) l n hn h
def Zq3 (s:ZsU):Bool×Int×Int×Int×Int×Int×Int×Int×Int×Bool:=(s.root,s.src,s.core,s.slot,s.kind,s.base,s.bits,s.count,s.rights,s.copy)
theorem ZkL {γ:Type} {l:List ZsU} {i:Nat} (h:i < l.length) (k:(Bool×Int×Int×Int×Int×Int×Int×Int×Int×Bool)→Option γ):Zj (l.map Za5) (i:Int) [.bool,.int .i64,.int .i64,.int .i64,.int .i64,.int .i64,.int .i64,.int .i64,.int .i64,.bool] k=k (Zq3 l[i]):=Yj (f:=Za5) (sh:=[.bool,.int .i64,.int .i64,.int .i64,.int .i64,.int .i64,.int .i64,.int .i64,.int .i64,.bool]) (v:=Zq3) (fun _=>rfl) h k
theorem s11 (l:List ZsU) (hn:l.length < 2^63):Ret (fun r=>∃ m,FOk m 30∧r=m.map Ze) (g11 (l.map Za5)):=by
 rw [Zut]
 have key:∀ (d i fuel:Nat) (m:List Zx),i+d=41→d < fuel→FOk m 30→Ret (fun r=>∃ m,FOk m 30∧r=m.map Ze) (Zoh fuel (l.map Za5) (m.map Ze) (i:Int)):=by
  intro d
  induction d with
  | zero =>
   intro i fuel m hi hf hm
   obtain ⟨q,rfl⟩:∃ q,fuel=q+1:=⟨fuel-1,by omega⟩
   rw [ZjA]
   refine Zk (fun _=>?_) fun _=>Zg ⟨m,hm,rfl⟩
   rw [if_neg (by simp only [CQ];omega)]
   exact Zg ⟨m,hm,rfl⟩
  | succ d ih =>
   intro i fuel m hi hf hm
   obtain ⟨q,rfl⟩:∃ q,fuel=q+1:=⟨fuel-1,by omega⟩
   rw [ZjA]
   refine Zk (fun h1=>?_) fun _=>Zg ⟨m,hm,rfl⟩
   refine Zk (fun h2=>?_) fun _=>Zg ⟨m,hm,rfl⟩
   refine Zk (fun h3=>?_) fun _=>Zg ⟨m,hm,rfl⟩
   simp only [CQ,List.length_map] at h1 h2 h3
   have hil:i < l.length:=by omega
   refine Zf (ZkL hil _) ?_
   simp only [Zq3]
   have e:iop .add .i64 (i:Int) 1=((i+1:Nat):Int):=Jd hil hn
   rw [e]
   refine Zb (s31 m 27 (by omega) ⟨by omega,hm.all,hm.asc⟩ _ _ _ _ _ _ _ _ _ _ _ (by omega) (by omega)) fun r ⟨m',hm',hr⟩=>?_
   subst hr
   exact ih (i+1) q m' (by omega) (by omega) hm'
 exact key 41 0 ZE [] rfl (by have:=@Wv 41 (by omega);omega) ⟨by simp,by simp,List.Pairwise.nil⟩
end Go.Proofs.YtjldbnbdcmfbmaaGreat
end

section
namespace Go.Proofs.YtjldbnbdcmfbmaaGreat
open Go Go.AM
set_option linter.unusedSimpArgs false
set_option linter.unusedVariables false
set_option maxRecDepth 100000
structure SOk (l:List Zx) (s:List Kc):Prop where
 len:s.length=12
 spot:∀ t (h:t < s.length),s[t].op=0∧s[t].lock=zid∧(s[t].node=Z4∨∃ e∈l,e.slot=(t:Int)∧s[t].node=e.node)
theorem SOk.all {l:List Zx} {s:List Kc} (h:SOk l s):∀ x∈s,x.op=0∧x.lock=zid∧(x.node=Z4∨∃ e∈l,x.node=e.node):=by
 intro x hx
 obtain ⟨t,ht,rfl⟩:=List.getElem_of_mem hx
 obtain ⟨h1,h2,h3⟩:=h.spot t ht
 exact ⟨h1,h2,h3.imp id fun ⟨e,he,_,hn⟩=>⟨e,he,hn⟩⟩
theorem SOk.few {l:List Zx} {s:List Kc} {n:Nat} (h:SOk l s) (hf:FOk l n):ZAK s:=by
 refine ⟨by have:=h.len;omega,fun x hx=>?_⟩
 rcases (h.all x hx).2.2 with e | ⟨e,he,hne⟩
 ·rw [e];simp [Z4]
 ·have:=(JX (hf.all e he).ok).2.2.1
  rw [hne];omega
theorem s80 (l:List Zx) (n:Nat) (hn:n≤60) (hf:FOk l n) (c:Int):Ret (fun r=>∃ s,SOk l s∧r=s.map Zh) (g80 (l.map Ze) c):=by
 have hl:=hf.len
 rw [Zvc]
 refine Zn (by decide) (Zn (by decide) (Zn (by decide) ?_))
 refine Vc (F:=fun k (s:LL) z=>ZeJ k (l.map Ze) c s z) (n:=l.length) (fun i s=>∃ s',SOk l s'∧s=s'.map Zh) (by omega) (fun k i s hi hj ih=>?_) (fun k s hj=>?_) _ ⟨List.replicate 12 ⟨Z4,0,zid⟩,⟨rfl,fun t ht=>?_⟩,rfl⟩
 ·obtain ⟨s,hs,rfl⟩:=hj
  show Ret _ (ZeJ (k+1) _ _ _ _)
  rw [Zj9,List.length_map,if_pos (Jg hi)]
  refine Zf (Zo hi _) ?_
  simp only [Yg,d2,d4,d8,d16]
  have nxt:Ret (fun r=>∃ s,SOk l s∧r=s.map Zh) (ZeJ k (l.map Ze) c (s.map Zh) (iop .add .i64 (i:Int) 1)):=by rw [Jd hi (by omega)];exact ih _ ⟨s,hs,rfl⟩
  refine Zk (fun _=>?_) fun _=>nxt
  refine Zf (Zo hi _) ?_
  simp only [Yg,d2,d4,d8,d16]
  refine Zk (fun h1=>?_) fun _=>nxt
  simp only [CQ] at h1
  refine Zf (Zo hi _) ?_
  simp only [Yg,d2,d4,d8,d16]
  refine Zf (Zo hi _) ?_
  simp only [Yg,d2,d4,d8,d16]
  have he:=hf.all _ (List.getElem_mem hi)
  have hp:=(JX he.ok).2.2.1
  rw [s25 l[i].node (by omega),Option.bind_some]
  have h0:=he.s0
  have hsl:=hs.len
  refine Zn (by omega) (Zn (by rw [List.length_map];omega) (Zn (by omega) (Zn (by rw [List.length_map];omega) ?_)))
  rw [Jd hi (by omega)]
  refine ih _ ⟨s.modify l[i].slot.toNat (ZxA l[i].node),⟨by rw [List.length_modify];exact hsl,fun t ht=>?_⟩,Zox s _ l[i].node⟩
  rw [List.length_modify] at ht
  rw [List.getElem_modify]
  have ha:=hs.spot t ht
  split
  ·exact ⟨ha.1,ha.2.1,.inr ⟨l[i],List.getElem_mem hi,by omega,rfl⟩⟩
  ·exact ha
 ·obtain ⟨s,hs,rfl⟩:=hj
  show Ret _ (ZeJ (k+1) _ _ _ _)
  rw [Zj9,List.length_map,if_neg (Jh (Nat.le_refl _))]
  exact Zg ⟨s,hs,rfl⟩
 ·rw [List.getElem_replicate]
  exact ⟨rfl,rfl,.inl rfl⟩
end Go.Proofs.YtjldbnbdcmfbmaaGreat
end

section
namespace Go.Proofs.YtjldbnbdcmfbmaaGreat
open Go Go.AM
set_option linter.unusedSimpArgs false
set_option linter.unusedVariables false
set_option maxRecDepth 100000
theorem ZfA {α:Type} (lt:α→α→Bool) (l:List α):Vu lt l=true↔∀ j (h:j+1 < l.length),lt l[j] l[j+1]=true:=by
 rw [Vu,List.all_eq_true]
 constructor
 ·intro h j hj
  have:=h (j+1) (by rw [List.mem_range'_1];omega)
  rw [WT lt hj] at this
  exact this
 ·intro h i hi
  rw [List.mem_range'_1] at hi
  match i with
  | 0 => rfl
  | j + 1 => rw [WT lt (by omega)]; exact h j (by omega)
theorem Zjg {α:Type} {lt:α→α→Bool} {l:List α} {a:α} (h:Vu lt l=true) (ha:∀ h:0 < l.length,lt (l[l.length-1]'(by omega)) a=true):Vu lt (l++[a])=true:=by
 rw [ZfA] at h ⊢
 intro j hj
 rw [List.length_append,List.length_cons,List.length_nil] at hj
 by_cases hjl:j+1 < l.length
 ·rw [List.getElem_append_left (by omega),List.getElem_append_left hjl]
  exact h j hjl
 ·have e:j=l.length-1:=by omega
  subst e
  rw [List.getElem_append_left (by omega),List.getElem_append_right (by omega)]
  have:=ha (by omega)
  simpa using this
theorem ZnV {α:Type} {lt:α→α→Bool} {l:List α} (h:l.Pairwise fun a b=>lt a b=true):Vu lt l=true:=by
 rw [ZfA]
 intro j hj
 exact List.pairwise_iff_getElem.1 h j (j+1) (by omega) hj (by omega)
theorem Kd {α:Type} (f:α→List AV) (l:List α) (a:α):l.map f++(E0++[f a])=(l++[a]).map f:=by simp
theorem Yh {α:Type} {P:α→Prop} {l:List α} {a:α} (h:∀ x∈l,P x) (ha:P a):∀ x∈l++[a],P x:=by
 intro x hx
 simp only [List.mem_append,List.mem_singleton] at hx
 rcases hx with hx | rfl
 ·exact h x hx
 ·exact ha
theorem Yc {σ γ:Type} {P:γ→Prop} {F:Nat→σ→Int→Option γ} (n:Nat) (J:Nat→σ→Prop) (hn:n < 1000)
  (step:∀ (k i:Nat) (s:σ),i≤n→J i s→(i < n→∀ s',J (i+1) s'→Ret P (F k s' ((i+1:Nat):Int)))→Ret P (F (k+1) s (i:Int))) (s:σ) (h:J 0 s):Ret P (F ZE s 0):=by
 refine Vc (F:=F) (n:=n) J (by omega) (fun k i s hi hj ih=>step k i s (by omega) hj fun _=>ih) (fun k s hj=>step k n s (Nat.le_refl _) hj fun h=>absurd h (Nat.lt_irrefl _)) s h
theorem Zdt {i n:Nat} (h:i≤n) (hn:n < 1000):iop .add .i64 (i:Int) 1=((i+1:Nat):Int):=by
 rw [J8 (by omega) (by omega)];omega
def Rng (z:Int):Prop:=-(2^63:Int)≤z∧z < 2^63
def YE (c:Call):List Int:=[c.kind,c.slot,c.dest,c.core,c.mask,c.object,c.bits,c.level,c.offset,c.count,c.index,c.addr]
def RL (l:List Int):Prop:=∀ x∈l,Rng x
def Zeh (s:Jv):Prop:=∀ q∈s.pending,∀ z∈YE q.call,Rng z
theorem Zdr {z:Int} (h1:0≤z) (h2:z < 1000000):Rng z:=⟨by omega,by omega⟩
theorem Zme (l:List Int) (z:Int):Ret (fun v=>RL l→Rng v) (g21 (Za l) z):=by
 rw [Zp9]
 refine Zk (fun _=>Zg fun _=>⟨by decide,by decide⟩) fun h1=>Zk (fun _=>Zg fun _=>⟨by decide,by decide⟩) fun h2=>?_
 simp only [CQ,ZU] at h1 h2
 have e:z=((z.toNat:Nat):Int):=by omega
 have hl:z.toNat < l.length:=by omega
 have:=ZT (γ:=Int) hl (fun r=>some r)
 rw [← e] at this
 exact Zf this (Zg fun h=>h _ (List.getElem_mem hl))
structure ZzZ (i:Id):Prop where
 c0:0≤i.core
 c1:i.core < 4
 o0:1≤i.op
 o1:i.op≤20
 p:i.part=0
theorem ZzZ.ok {i:Id} (h:ZzZ i):Zdq i=true:=by
 obtain ⟨h1,h2,h3,h4,h5⟩:=h
 simp only [Zdq,K3,Bool.and_eq_true,decide_eq_true_eq]
 omega
theorem s22 (x:Int):Ret (fun r=>∃ i:Id,r=(i.core,i.op,i.part)∧ZzZ i) (g22 x):=by
 rw [Ztx]
 refine Zb (place x 4 (by omega) (by omega)) fun a ha=>Zn (by omega) (Zb (place _ 20 (by omega) (by omega)) fun b hb=>?_)
 have e:iop .add .i64 1 b=1+b:=J8 (by omega) (by omega)
 rw [e]
 exact Zg ⟨⟨a,1+b,0⟩,rfl,⟨ha.1,ha.2,by show 1≤1+b;omega,by show 1+b≤20;omega,rfl⟩⟩
theorem s24 (l:List Int) (z:Int) (hz:0≤z):Ret (fun r=>∃ m:List Int,r=Za m∧m.length≤l.length∧(RL l→RL m)) (g24 (Za l) z):=by
 rw [ZvK,ZU]
 refine Zk (fun _=>Zg ⟨[],rfl,by simp,fun _ x hx=>by cases hx⟩) fun h=>?_
 simp only [CQ] at h
 refine Zn hz (Zn (by omega) (Zg ⟨l.drop z.toNat,?_,by simp,fun h x hx=>h x (List.mem_of_mem_drop hx)⟩))
 exact (List.map_drop ..).symm
theorem ZkM {γ:Type} {P:γ→Prop} {a b z:Int} {k:Int→Option γ} (h0:0≤z) (h:z < 2) (hk:∀ x,x=a∨x=b→Ret P (k x)):Ret P (Zj ((E0++[[I a]])++[[I b]]) z [.int .i64] k):=
 Zbv (l:=[a,b]) h0 (by simp;omega) (hk _ (by rcases (by omega:z=0∨z=1) with rfl | rfl<;>simp))
theorem Zmf:KB Z4 Z4=true:=by kernel_rfl
theorem s23 (l:List Int) (n:Yi) (hn:ZO n=true) (hp:n.path.length≤20):Ret (fun r=>∃ q:Req,r=Ztl q∧(q.src.path.length≤20∧q.call.dest < 8)∧KQ q=true∧(RL l→∀ z∈YE q.call,Rng z)) (g23 (Za l) n.id.core n.id.op n.id.part (Zc n.path) n.cap.kind n.cap.base n.cap.bits n.cap.rights n.cap.width n.cap.level n.cap.device):=by
 rw [ZuB]
 refine Zb (Zp l 0) fun _ _=>Zb (s22 _) fun r ⟨i,hi,hio⟩=>?_
 subst hi
 refine Zb (Zp l 1) fun _ _=>Zb (place _ 3 (by omega) (by omega)) fun rg hrg=>?_
 refine Zb (Zp l 2) fun _ _=>Zb (place _ 2 (by omega) (by omega)) fun _ h2=>?_
 refine ZkM h2.1 h2.2 fun w hw=>?_
 rw [s25 n (by omega),Option.bind_some]
 refine Zb (Zp l 3) fun _ _=>Zb (place _ 6 (by omega) (by omega)) fun kd hkd=>?_
 refine Zb (Zp l 4) fun _ _=>Zb (place _ 8 (by omega) (by omega)) fun v4 h4=>?_
 refine Zb (Zp l 5) fun _ _=>Zb (place _ 8 (by omega) (by omega)) fun v5 hde=>?_
 refine Zb (Zp l 6) fun _ _=>Zb (place _ 4 (by omega) (by omega)) fun v6 h6=>?_
 refine Zb (Zp l 7) fun _ _=>Zb (place _ 8 (by omega) (by omega)) fun v7 h7=>?_
 refine Zb (Zp l 8) fun _ _=>Zb (place _ 6 (by omega) (by omega)) fun v8 h8=>?_
 refine Zb (Zp l 9) fun _ _=>Zb (place _ 3 (by omega) (by omega)) fun v9 h9=>?_
 refine Zb (Zp l 10) fun _ _=>Zb (place _ 2 (by omega) (by omega)) fun v10 h10=>?_
 refine Zb (Zp l 11) fun _ _=>Zb (place _ 8 (by omega) (by omega)) fun v11 h11=>Zn (by omega) ?_
 refine Zb (Zp l 12) fun _ _=>Zb (place _ 3 (by omega) (by omega)) fun v12 h12=>?_
 refine Zb (Zme l 13) fun v13 h13=>Zb (Zme l 14) fun v14 h14=>?_
 have e8:iop .add .i64 1 v8=1+v8:=J8 (by omega) (by omega)
 have e9:iop .add .i64 12 v9=12+v9:=J8 (by omega) (by omega)
 have e12:iop .add .i64 1 v12=1+v12:=J8 (by omega) (by omega)
 have e11:iop .shl .i64 v11 12=v11*4096:=Zuw (by omega) (by omega) (by omega) (by show v11*2^12 < 2^63;omega)
 rw [e8,e9,e11,e12]
 have hcall:RL l→∀ z∈YE ⟨1+kd,v4,v5,v6,v7,1+v8,12+v9,v10,v11*4096,1+v12,v13,v14⟩,Rng z:=by
  intro hl z hz
  simp only [YE,List.mem_cons,List.not_mem_nil,or_false] at hz
  rcases hz with rfl | rfl | rfl | rfl | rfl | rfl | rfl | rfl | rfl | rfl | rfl | rfl
  ·exact Zdr (by omega) (by omega)
  ·exact Zdr (by omega) (by omega)
  ·exact Zdr (by omega) (by omega)
  ·exact Zdr (by omega) (by omega)
  ·exact Zdr (by omega) (by omega)
  ·exact Zdr (by omega) (by omega)
  ·exact Zdr (by omega) (by omega)
  ·exact Zdr (by omega) (by omega)
  ·exact Zdr (by omega) (by omega)
  ·exact Zdr (by omega) (by omega)
  ·exact h13 hl
  ·exact h14 hl
 have ek:iop .add .i64 1 kd=1+kd:=J8 (by omega) (by omega)
 rw [ek]
 have hr:J0 rg=true:=by simp only [J0,decide_eq_true_eq];omega
 refine Zk (fun h1=>Zg ⟨⟨i,⟨_,_,_,_,_,_,_,_,_,_,_,_⟩,_,_,Z4⟩,rfl,⟨by simp [Z4],hde.2⟩,?_,hcall⟩) fun h1=>Zg ⟨⟨i,⟨_,_,_,_,_,_,_,_,_,_,_,_⟩,_,_,n⟩,rfl,⟨hp,hde.2⟩,?_,hcall⟩
 ·simp only [CQ] at h1
  simp only [KQ,hio.ok,hr,h1,Zmf,Bool.and_eq_true,decide_eq_true_eq,if_true,true_and,and_true]
  exact ⟨by omega,hw⟩
 ·simp only [CQ] at h1
  simp only [KQ,hio.ok,hr,hn,if_neg h1,Bool.and_eq_true,decide_eq_true_eq,true_and,and_true]
  exact ⟨by omega,hw⟩
structure Zkv (f:List Zx) (ss:List Kc):Prop where
 len:ss.length=12
 spot:∀ t (h:t < ss.length),(0≤ss[t].op∧ss[t].op≤20)∧((ss[t].node=Z4∧ss[t].lock=zid)∨∃ e∈f,e.slot=(t:Int)∧ss[t].node=e.node∧(ss[t].lock=zid∨Zdq ss[t].lock=true))
theorem SOk.slIn {f:List Zx} {s:List Kc} (h:SOk f s):Zkv f s:=⟨h.len,fun t ht=>by
 obtain ⟨h1,h2,h3⟩:=h.spot t ht
 refine ⟨by omega,?_⟩
 rcases h3 with h3 | ⟨e,he,hs,hn⟩
 ·exact .inl ⟨h3,h2⟩
 ·exact .inr ⟨e,he,hs,hn,.inl h2⟩⟩
theorem ZuK {f:List Zx} {n:Nat} (hf:FOk f n) {a b:Zx} (ha:a∈f) (hb:b∈f) (h:a.node.id=b.node.id):a=b:=by
 obtain ⟨i,hi,rfl⟩:=List.getElem_of_mem ha
 obtain ⟨j,hj,rfl⟩:=List.getElem_of_mem hb
 have hp:=List.pairwise_iff_getElem.1 hf.asc
 by_cases hij:i < j
 ·have:=hp i j hi hj hij
  rw [ZgT,h] at this;omega
 ·by_cases hji:j < i
  ·have:=hp j i hj hi hji
   rw [ZgT,h] at this;omega
  ·have:i=j:=by omega
   subst this;rfl
theorem Zj3 {f:List Zx} {n:Nat} (hf:FOk f n) {e:Zx} (he:e∈f):e.node.id≠zid:=by
 intro h
 have:=(hf.all e he).o1
 rw [h] at this
 exact absurd this (by decide)
theorem ZoX {f:List Zx} {n:Nat} {ss:List Kc} (hf:FOk f n) (h:Zkv f ss):VU ss=true:=by
 have hl:=h.len
 rw [VU,Bool.and_eq_true,decide_eq_true_eq,List.all_eq_true]
 refine ⟨by omega,fun i hi=>?_⟩
 rw [List.mem_range'_1] at hi
 have hil:i < ss.length:=by omega
 obtain ⟨ho,hn⟩:=h.spot i hil
 rw [Bool.and_eq_true,J7 _ hil]
 refine ⟨?_,?_⟩
 ·rw [Zcu,Bool.and_eq_true,decide_eq_true_eq]
  refine ⟨by omega,?_⟩
  rcases hn with ⟨e1,e2⟩ | ⟨e,he,_,e1,e2⟩
  ·rw [e1,e2,if_pos (show Z4.id=zid from rfl),Zmf];rfl
  ·rw [e1,if_neg (Zj3 hf he),(hf.all e he).ok,Bool.true_and,Bool.or_eq_true,decide_eq_true_eq]
   exact e2
 ·unfold ZdK
  rw [List.getElem?_eq_getElem hil]
  show (!((ss.take i).any (ZnS ss[i].node.id)))=true
  rw [Bool.not_eq_true',List.any_eq_false]
  intro x hx
  obtain ⟨j,hj,rfl⟩:=List.getElem_of_mem hx
  rw [List.length_take] at hj
  rw [List.getElem_take]
  have hji:j < i:=by omega
  obtain ⟨_,hm⟩:=h.spot j (by omega)
  rw [ZnS,Bool.not_eq_true,Bool.and_eq_false_iff]
  rcases hm with ⟨e1,_⟩ | ⟨e,he,hs,e1,_⟩
  ·left;rw [e1];rfl
  ·right
   rw [decide_eq_false_iff_not,e1]
   intro heq
   rcases hn with ⟨e3,_⟩ | ⟨e',he',hs',e3,_⟩
   ·rw [e3] at heq;exact Zj3 hf he heq
   ·rw [e3] at heq
    have:=ZuK hf he he' heq
    subst this
    omega
structure StG (f:List Zx) (s:Jv):Prop where
 slots:Zkv f s.slots
 ok:Yy s=true
 pend:s.pending.length≤3
 psrc:∀ q∈s.pending,q.src.path.length≤20∧q.call.dest < 8
 pok:∀ q∈s.pending,KQ q=true
 marks:s.marks.length≤3
 answers:s.answers.length≤3
 entries:s.entries.length≤3
 epath:∀ e∈s.entries,e.node.path.length≤20
 commits:s.commits.length≤3
abbrev StT:=LL×LL×LL×LL×LL×LL
def stV (s:Jv):StT:=(s.slots.map Zh,s.pending.map ZN,s.marks.map Zm,s.answers.map ZS,s.entries.map Ze,Zc s.commits)
def StR (f:List Zx) (l:List Int) (r:StT):Prop:=∃ s:Jv,r=stV s∧StG f s∧(RL l→Zeh s)
def ZAC (z:List Int) (l:List Req):Prop:=(RL z→∀ q∈l,∀ x∈YE q.call,Rng x)∧l.length≤3∧(∀ q∈l,q.src.path.length≤20∧q.call.dest < 8)∧(∀ q∈l,KQ q=true)∧Vu ltp l=true
def Zxu (l:List ZcA):Prop:=l.length≤3∧(∀ q∈l,KY q=true)∧Vu ltm l=true
def Zw3 (l:List Ans):Prop:=l.length≤3∧(∀ q∈l,Zbi q=true)∧Vu lta l=true
def ZuD (l:List Zx):Prop:=l.length≤3∧(∀ e∈l,e.node.path.length≤20)∧(∀ q∈l,ZaL q=true)∧Vu lte l=true
def ZuJ (l:List Id):Prop:=l.length≤3∧∀ q∈l,Zdq q=true
theorem Zn4 {l:List Int} {f:List Zx} {n:Nat} (hf:FOk f n) {ss:List Kc} (hs:Zkv f ss) {pe:List Req} (hp:ZAC l pe) {ma:List ZcA} (hm:Zxu ma) {an:List Ans} (ha:Zw3 an) {en:List Zx} (he:ZuD en) {co:List Id} (hc:ZuJ co) :
  StR f l (ss.map Zh,pe.map ZN,ma.map Zm,an.map ZS,en.map Ze,Zc co):=by
 refine ⟨⟨ss,pe,ma,an,en,co⟩,rfl,⟨hs,?_,hp.2.1,hp.2.2.1,hp.2.2.2.1,hm.1,ha.1,he.1,he.2.1,hc.1⟩,hp.1⟩
 simp only [Yy,ZoX hf hs,List.all_eq_true.2 hp.2.2.2.1,hp.2.2.2.2,List.all_eq_true.2 hm.2.1,hm.2.2,List.all_eq_true.2 ha.2.1,ha.2.2,List.all_eq_true.2 he.2.2.1,he.2.2.2,List.all_eq_true.2 hc.2,Bool.and_self]
theorem Zvz {e:Zx} (h:EOk e):ZaL e=true:=by
 obtain ⟨h1,h2,h3,h4,_,_,_,_,_,h5⟩:=h
 simp only [ZaL,Z5,Zbq,h5,Bool.and_eq_true,decide_eq_true_eq,and_true]
 omega
theorem ZxX (l:List Int) (f:List Zx) (n:Nat) (hf:FOk f n) (hn:n≤60) (y2 y3 y4 y5 y6 y7 sl pe ma an:LL) (h:∀ en co,ZuD en→ZuJ co→StR f l (sl,pe,ma,an,en.map Ze,Zc co)) :
  Ret (StR f l) (ZkV ZE (Za l) (f.map Ze) y2 y3 y4 y5 y6 y7 sl pe ma an E0 E0 0):=by
 have hfl:=hf.len
 refine Yc (F:=fun k (s:LL×LL) z=>ZkV k (Za l) (f.map Ze) y2 y3 y4 y5 y6 y7 sl pe ma an s.1 s.2 z) 3
  (fun i s=>∃ cs,s=(List.map Ze (f.take i),Zc cs)∧i≤f.length∧cs.length≤i∧∀ c∈cs,Zdq c=true) (by omega) (fun k i s hi hj ih=>?_) (E0,E0) ⟨[],by simp [Zc],by omega,by simp,by simp⟩
 obtain ⟨cs,rfl,h1,h2,h3⟩:=hj
 have out:Ret (StR f l) (some (sl,pe,ma,an,List.map Ze (f.take i),Zc cs)):=Zg (h _ _ ⟨by simp;omega,fun e he=>by have:=(JX (hf.all e (List.mem_of_mem_take he)).ok).2.2.1;omega,fun e he=>Zvz (hf.all e (List.mem_of_mem_take he)),ZnV hf.asc.take⟩ ⟨by omega,h3⟩)
 show Ret _ (ZkV (k+1) _ _ _ _ _ _ _ _ _ _ _ _ _ _ _)
 rw [Zo5]
 refine Zb (Zp l _) fun _ _=>Zb (place _ 3 (by omega) (by omega)) fun r16 h16=>?_
 refine Zk (fun h4=>?_) fun _=>out
 refine Zk (fun h5=>?_) fun _=>out
 simp only [CQ,List.length_map] at h4 h5
 have hif:i < f.length:=by omega
 refine Zn (Zv (by simp;omega) (by omega)) ?_
 refine Zf (Zo hif _) ?_
 simp only [Yg,d2,d4,d8,d16]
 refine Zn (Zv (by simp;omega) (by omega)) (Zn (Zv (by rw [ZY];simp;omega) (by omega)) ?_)
 refine Zb (Zp l _) fun _ _=>Zb (s22 _) fun r ⟨c,hc,hco⟩=>?_
 subst hc
 refine Zn (Zv (by rw [ZY];simp;omega) (by omega)) ?_
 rw [Zdt hi (by omega)]
 refine ih (by omega) (List.map Ze (f.take i)++(E0++[Ze f[i]]),Zc cs++(E0++[idc c])) ⟨cs++[c],?_,by omega,by simp;omega,Yh h3 hco.ok⟩
 have e1:f.take (i+1)=f.take i++[f[i]]:=by rw [List.take_add_one,List.getElem?_eq_getElem hif];rfl
 rw [e1,Kd]
 simp [Zc]
theorem ZzI (l:List Int) (f:List Zx) (n:Nat) (hf:FOk f n) (hn:n≤60) (y2 y3 y4 y5 y6 y7 sl pe ma:LL) (h:∀ an en co,Zw3 an→ZuD en→ZuJ co→StR f l (sl,pe,ma,an.map ZS,en.map Ze,Zc co)) :
  Ret (StR f l) (Zk1 ZE (Za l) (f.map Ze) y2 y3 y4 y5 y6 y7 sl pe ma E0 E0 E0 0):=by
 refine Yc (F:=fun k (s:LL) z=>Zk1 k (Za l) (f.map Ze) y2 y3 y4 y5 y6 y7 sl pe ma s E0 E0 z) 3
  (fun i s=>∃ es:List Ans,s=List.map ZS es∧es.length=i∧(∀ j (h:j < es.length),es[j].op=((j+1:Nat):Int))∧∀ x∈es,Zbi x=true) (by omega) (fun k i s hi hj ih=>?_) _ ⟨[],rfl,by simp,by simp,by simp⟩
 obtain ⟨es,rfl,h1,h2,h3⟩:=hj
 show Ret _ (Zk1 (k+1) _ _ _ _ _ _ _ _ _ _ _ _ _ _ _)
 rw [Zor]
 refine Zb (Zp l _) fun _ _=>Zb (place _ 3 (by omega) (by omega)) fun r16 h16=>?_
 refine Zk (fun h4=>?_) fun _=>ZxX l f n hf hn _ _ _ _ _ _ _ _ _ _ fun en co he hc=>h es en co ⟨by omega,h3,(ZfA ..).2 fun j hj=>by rw [lta,h2,h2,decide_eq_true_eq];omega⟩ he hc
 simp only [CQ] at h4
 refine Zn (Zv (by simp;omega) (by omega)) ?_
 refine Zb (Zp l _) fun _ _=>Zb (place _ 20 (by omega) (by omega)) fun v hv=>?_
 refine Zn (Zv (by simp;omega) (by omega)) ?_
 rw [Zdt hi (by omega)]
 refine ih (by omega) _ ⟨es++[⟨((i+1:Nat):Int),v⟩],by rw [← Kd];rfl,by simp;omega,fun j hj=>?_,Yh h3 (by simp only [Zbi,ZdH,Bool.and_eq_true,decide_eq_true_eq];omega)⟩
 by_cases hjl:j < es.length
 ·rw [List.getElem_append_left hjl];exact h2 j hjl
 ·rw [List.getElem_append_right (by omega)]
  rw [List.length_append,List.length_cons,List.length_nil] at hj
  have:j=i:=by omega
  subst this
  simp
theorem Zy0 (l:List Int) (f:List Zx) (n:Nat) (hf:FOk f n) (hn:n≤60) (y2 y3 y4 y5 y6 y7 sl pe:LL) (h:∀ ma an en co,Zxu ma→Zw3 an→ZuD en→ZuJ co→StR f l (sl,pe,ma.map Zm,an.map ZS,en.map Ze,Zc co)) :
  Ret (StR f l) (Zh4 ZE (Za l) (f.map Ze) y2 y3 y4 y5 y6 y7 sl pe E0 E0 E0 E0 0):=by
 refine Yc (F:=fun k (s:LL) z=>Zh4 k (Za l) (f.map Ze) y2 y3 y4 y5 y6 y7 sl pe s E0 E0 E0 z) 3
  (fun i s=>∃ es:List ZcA,s=List.map Zm es∧es.length=i∧(∀ j (h:j < es.length),es[j].region=(j:Int))∧∀ x∈es,KY x=true) (by omega) (fun k i s hi hj ih=>?_) _ ⟨[],rfl,by simp,by simp,by simp⟩
 obtain ⟨es,rfl,h1,h2,h3⟩:=hj
 show Ret _ (Zh4 (k+1) _ _ _ _ _ _ _ _ _ _ _ _ _ _ _)
 rw [ZoN]
 refine Zb (Zp l _) fun _ _=>Zb (place _ 3 (by omega) (by omega)) fun r16 h16=>?_
 refine Zk (fun h4=>?_) fun _=>ZzI l f n hf hn _ _ _ _ _ _ _ _ _ fun an en co ha he hc=>h es an en co ⟨by omega,h3,(ZfA ..).2 fun j hj=>by rw [ltm,h2,h2,decide_eq_true_eq];omega⟩ ha he hc
 simp only [CQ] at h4
 refine Zn (Zv (by simp;omega) (by omega)) ?_
 refine Zb (Zp l _) fun _ _=>Zb (s22 _) fun r ⟨c,hc,hco⟩=>?_
 subst hc
 refine Zn (Zv (by simp;omega) (by omega)) ?_
 rw [Zdt hi (by omega)]
 refine ih (by omega) _ ⟨es++[⟨(i:Int),c⟩],by rw [← Kd];rfl,by simp;omega,fun j hj=>?_,Yh h3 (by simp only [KY,J0,hco.ok,Bool.and_eq_true,decide_eq_true_eq,and_true];omega)⟩
 by_cases hjl:j < es.length
 ·rw [List.getElem_append_left hjl];exact h2 j hjl
 ·rw [List.getElem_append_right (by omega)]
  rw [List.length_append,List.length_cons,List.length_nil] at hj
  have:j=i:=by omega
  subst this
  simp
theorem ZyK (l:List Int) (f:List Zx) (n:Nat) (hf:FOk f n) (hn:n≤60) (y2 y3 y4 y5 y6 y7 sl:LL) (h:∀ pe ma an en co,ZAC l pe→Zxu ma→Zw3 an→ZuD en→ZuJ co→StR f l (sl,pe.map ZN,ma.map Zm,an.map ZS,en.map Ze,Zc co)) :
  Ret (StR f l) (ZeP ZE (Za l) (f.map Ze) y2 y3 y4 y5 y6 y7 sl E0 E0 E0 E0 E0 0):=by
 have hfl:=hf.len
 refine Yc (F:=fun k (s:LL) z=>ZeP k (Za l) (f.map Ze) y2 y3 y4 y5 y6 y7 sl s E0 E0 E0 E0 z) 3
  (fun i s=>∃ es,s=List.map ZN es∧es.length≤i∧(∀ q∈es,q.src.path.length≤20∧q.call.dest < 8)∧(∀ q∈es,KQ q=true)∧Vu ltp es=true∧(RL l→∀ q∈es,∀ x∈YE q.call,Rng x)) (by omega) (fun k i s hi hj ih=>?_) _ ⟨[],rfl,by simp,by simp,by simp,rfl,by simp⟩
 obtain ⟨es,rfl,h1,h3,h7,h8,h9⟩:=hj
 have out:=Zy0 l f n hf hn y2 y3 y4 y5 y6 y7 sl (List.map ZN es) fun ma an en co hm ha he hc=>h es ma an en co ⟨h9,by omega,h3,h7,h8⟩ hm ha he hc
 show Ret _ (ZeP (k+1) _ _ _ _ _ _ _ _ _ _ _ _ _ _ _)
 rw [Zpp]
 refine Zb (Zp l _) fun _ _=>Zb (place _ 3 (by omega) (by omega)) fun r16 h16=>?_
 refine Zk (fun h4=>?_) fun _=>out
 refine Zk (fun h5=>?_) fun _=>out
 simp only [CQ,List.length_map] at h4 h5
 have e13:iop .add .i64 13 (i:Int)=13+i:=J8 (by omega) (by omega)
 rw [e13]
 refine Zb (s24 l _ (by omega)) fun r ⟨m,hr,_,hsub⟩=>?_
 subst hr
 rw [List.length_map]
 refine Zb (Zp l _) fun _ _=>Zb (place _ _ (by omega) (by omega)) fun r19 h19=>?_
 have hil:r19.toNat < f.length:=by omega
 refine Kz h19.1 hil ?_
 simp only [Yg,d2,d4,d8,d16]
 have hno:=(hf.all _ (List.getElem_mem hil)).ok
 have hp:=(JX hno).2.2.1
 refine Zb (s23 m f[r19.toNat].node hno (by omega)) fun r ⟨q,hq,hqp,hqo,hqc⟩=>?_
 subst hq
 rw [Zdt hi (by omega)]
 have room1:Ju E0 (List.map ZN es) 240:=Zv (by simp;omega) (by omega)
 have room2:Ju (List.map ZN es) (E0++[ZN q]) 240:=Zv (by simp;omega) (by omega)
 have nxt:i < 3→(∀ h:0 < es.length,ltp (es[es.length-1]'(by omega)) q=true)→Ret (StR f l) (ZeP k (Za l) (f.map Ze) y2 y3 y4 y5 y6 y7 sl (List.map ZN es++(E0++[ZN q])) E0 E0 E0 E0 ((i+1:Nat):Int)):=fun hi3 hlt=>ih hi3 _ ⟨es++[q],(Kd ..),by simp;omega,Yh h3 hqp,Yh h7 hqo,Zjg h8 hlt,fun hl=>Yh (h9 hl) (hqc (hsub hl))⟩
 refine Zk (fun h6=>Zn room1 (Zn room2 (nxt (by omega) fun h=>?_))) fun h6=>?_
 ·simp only [CQ,List.length_map] at h6
  omega
 simp only [CQ,List.length_map] at h6
 have e1:iop .sub .i64 (List.length (List.map ZN es):Int) 1=((es.length-1:Nat):Int):=by rw [List.length_map,Zh2 (by omega) (by omega)];omega
 rw [e1]
 refine Zf (Yf (show es.length-1 < es.length by omega) _) ?_
 refine Zf (congrArg (fun o=>Option.bind o _) (s82 _ _ _ _ _ _)) ?_
 refine Zk (fun hlt=>Zn room1 (Zn room2 (nxt (by omega) fun _=>hlt))) fun _=>ih (by omega) _ ⟨es,rfl,by omega,h3,h7,h8,h9⟩
def Zn2 (b:Id) (s:Kc):Kc:={ s with lock:=b }
theorem ZvS (acc:List Kc) (i:Nat) (b:Id):Z0 (acc.map Zh) i 12 [I b.core,I b.op,I b.part]=(acc.modify i (Zn2 b)).map Zh:=Zcw Zh (Zn2 b) acc i 12 _ fun _ _=>rfl
theorem Zkv.lockS {f:List Zx} {ss:List Kc} (h:Zkv f ss) (i:Nat) (hi:i < ss.length) (b:Id) (hb:Zdq b=true) (he:ZeC ss[i]=false):Zkv f (ss.modify i (Zn2 b)):=by
 refine ⟨by rw [List.length_modify];exact h.len,fun t ht=>?_⟩
 rw [List.length_modify] at ht
 rw [List.getElem_modify]
 obtain ⟨ho,hn⟩:=h.spot t ht
 split
 ·rename_i heq
  subst heq
  refine ⟨ho,?_⟩
  rcases hn with ⟨e1,_⟩ | ⟨e,he',hs,e1,_⟩
  ·rw [ZeC,e1] at he
   exact absurd he (by decide)
  ·exact .inr ⟨e,he',hs,e1,.inr hb⟩
 ·exact ⟨ho,hn⟩
theorem Zkv.opS {f:List Zx} {ss:List Kc} (h:Zkv f ss) (i:Nat) (g:Kc→Kc) (hg:∀ x,(g x).node=x.node∧(g x).lock=x.lock∧0≤(g x).op∧(g x).op≤20):Zkv f (ss.modify i g):=by
 refine ⟨by rw [List.length_modify];exact h.len,fun t ht=>?_⟩
 rw [List.length_modify] at ht
 rw [List.getElem_modify]
 obtain ⟨ho,hn⟩:=h.spot t ht
 split
 ·rw [(hg _).1,(hg _).2.1]
  exact ⟨(hg _).2.2,hn⟩
 ·exact ⟨ho,hn⟩
theorem ZxB (l:List Int) (f:List Zx) (n:Nat) (hf:FOk f n) (hn:n≤60) (y2 y3 y4 y5 y6 y7:LL) (ss:List Kc) (hss:Zkv f ss) :
  Ret (StR f l) (Za1 ZE (Za l) (f.map Ze) y2 y3 y4 y5 y6 y7 (ss.map Zh) E0 E0 E0 E0 E0 0):=by
 refine Yc (F:=fun k (s:LL) z=>Za1 k (Za l) (f.map Ze) y2 y3 y4 y5 y6 y7 s E0 E0 E0 E0 E0 z) 12
  (fun i s=>∃ es,s=List.map Zh es∧Zkv f es) (by omega) (fun k i s hi hj ih=>?_) _ ⟨ss,rfl,hss⟩
 obtain ⟨es,rfl,h1⟩:=hj
 have hl:=h1.len
 show Ret _ (Za1 (k+1) _ _ _ _ _ _ _ _ _ _ _ _ _ _ _)
 rw [ZoB,List.length_map]
 refine Zk (fun h4=>?_) fun _=>ZyK l f n hf hn _ _ _ _ _ _ _ fun pe ma an en co hp hm ha he hc=>Zn4 hf h1 hp hm ha he hc
 simp only [CQ] at h4
 have hi12:i < 12:=by omega
 have hie:i < es.length:=by omega
 rw [Zdt hi (by omega)]
 have h0:(0:Int)≤(i:Int):=by omega
 have hlt:(i:Int) < (es.length:Int):=by omega
 -- what becomes of the reservation
 have part2:∀ es':List Kc,Zkv f es'→Ret (StR f l) ((g21 (Za l) (i:Int)).bind fun (r17:Int)=>(g13 r17 7).bind fun (r18:Int)=>if (cop .eql r18 6)=true then (g21 (Za l) (i:Int)).bind fun (r19:Int)=>ZA ((7:Int)≠0)<|(g13 (iop .quo .i64 r19 7) 20).bind fun (r20:Int)=>ZA ((0:Int)≤(i:Int))<|ZA ((i:Int) < (List.length (es'.map Zh):Int))<|ZA ((0:Int)≤(i:Int))<|ZA ((i:Int) < (List.length (es'.map Zh):Int))<|
   Za1 k (Za l) (f.map Ze) y2 y3 y4 y5 y6 y7 (Z0 (es'.map Zh) (Int.toNat (i:Int)) 11 [AV.val (.int .i64 (iop .add .i64 1 r20))]) E0 E0 E0 E0 E0 ((i+1:Nat):Int)
   else Za1 k (Za l) (f.map Ze) y2 y3 y4 y5 y6 y7 (es'.map Zh) E0 E0 E0 E0 E0 ((i+1:Nat):Int)):=by
  intro es' he'
  have hl':=he'.len
  refine Zb (Zp l _) fun _ _=>Zb (place _ 7 (by omega) (by omega)) fun r18 _=>?_
  refine Zk (fun _=>?_) fun _=>ih hi12 _ ⟨es',rfl,he'⟩
  refine Zb (Zp l _) fun _ _=>Zn (by omega) (Zb (place _ 20 (by omega) (by omega)) fun r20 h20=>?_)
  rw [List.length_map]
  refine Zn h0 (Zn (by omega) (Zn h0 (Zn (by omega) ?_)))
  have e20:iop .add .i64 1 r20=1+r20:=J8 (by omega) (by omega)
  rw [Int.toNat_natCast,e20,ZuF]
  exact ih hi12 _ ⟨_,rfl,he'.opS _ _ fun x=>⟨rfl,rfl,by show 0≤1+r20;omega,by show 1+r20≤20;omega⟩⟩
 refine Zb (Zp l _) fun _ _=>Zb (place _ 5 (by omega) (by omega)) fun r16 _=>?_
 refine Zk (fun _=>?_) fun _=>?_
 ·refine Zn h0 (Zn hlt ?_)
  refine Zf (JZ hie _) ?_
  simp only [ZkR,d2,d4,d8,d16]
  rw [s81,Option.bind_some]
  refine Zk (fun hne=>?_) fun _=>?_
  ·rw [Bool.not_eq_true'] at hne
   refine Zb (Zp l _) fun _ _=>Zn (by omega) (Zb (s22 _) fun r ⟨b,hb,hbo⟩=>?_)
   subst hb
   refine Zn h0 (Zn hlt (Zn h0 (Zn hlt ?_)))
   have:=part2 (es.modify i (Zn2 b)) (h1.lockS i hie b hbo.ok hne)
   rw [← ZvS,← Int.toNat_natCast i] at this
   exact this
  ·have:=part2 es h1
   rw [List.length_map] at this
   exact this
 ·have:=part2 es h1
  rw [List.length_map] at this
  exact this
theorem s30 (l:List Int) (f:List Zx) (n:Nat) (hf:FOk f n) (hn:n≤60) (c:Int):Ret (StR f l) (g30 (Za l) (f.map Ze) c):=by
 rw [Zvl]
 refine Zb (s80 f n hn hf c) fun r ⟨s,hs,hr⟩=>?_
 subst hr
 exact ZxB l f n hf hn _ _ _ _ _ _ s hs.slIn
theorem StG.few {f:List Zx} {n:Nat} (hf:FOk f n) {s:Jv} (h:StG f s):ZAK s.slots:=by
 refine ⟨by have:=h.slots.len;omega,fun x hx=>?_⟩
 obtain ⟨t,ht,rfl⟩:=List.getElem_of_mem hx
 rcases (h.slots.spot t ht).2 with ⟨e,_⟩ | ⟨e,he,_,e1,_⟩
 ·rw [e];simp [Z4]
 ·rw [e1]
  have:=(JX (hf.all e he).ok).2.2.1
  omega
end Go.Proofs.YtjldbnbdcmfbmaaGreat
end
