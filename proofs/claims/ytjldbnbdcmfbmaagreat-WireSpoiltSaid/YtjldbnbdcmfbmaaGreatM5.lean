/- EndW8, W811a, W811b, W812a, W812d, W818a, W818b, W818c, W818d, W818e, W818f, W818g, W818h, W818i, W818j, W824a, W824c, W824d, W8L23a, W8L23b, W8L23c, W8L23d, W8J11a: texts of the proof, put together. -/
import Derived.Test.YtjldbnbdcmfbmaaGreatRows
import Derived.Test.YtjldbnbdcmfbmaaGreatChecked
import Derived.Test.YtjldbnbdcmfbmaaGreatM4
import Derived.JoinedOf
import Derived.JoinedAt
import Derived.RowKit3
import Derived.KernelRfl
import Derived.Test.YtjldbnbdcmfbmaaGreatF8f

section
namespace Go.Proofs.YtjldbnbdcmfbmaaGreat
open Go Go.AM
set_option maxRecDepth 100000
theorem behind : ∃ ws, behindMainWord (wordsSigns Tryz.prog.initOrder.toList) = "cut".toList :: ws := by
 have h:Tryz.prog.initOrder.toList=_:=String.toList_ofList (l:=_)
 rw [h]
 exact Zgu (by kernel_rfl) (by kernel_rfl) (by kernel_rfl) (by kernel_rfl) (by kernel_rfl) (by kernel_rfl)
theorem ZxX:Tryz.prog.mayEnter=true:=behind.elim fun _ h=>Go.AM.enters_of h (by kernel_rfl) (by kernel_rfl) (by kernel_rfl)
theorem ZCB:Tryz.prog.liftsFinal=false:=behind.elim fun _ h=>Go.AM.final_of h
theorem Zwp:Tryz.prog.make=some .cut:=behind.elim fun _ h=>Go.AM.make_of h
theorem ZEo:laidOutB Tryz.prog=true:=by kernel_rfl
theorem Znd:ownKnob Tryz.prog.godebug=none:=by kernel_rfl
def u8c (z:Int):List AV:=[AV.val (.int .u8 z)]
def Zc (l:List Int):List (List AV):=l.map u8c
def YN (l:List Int):Prop:=∀ z∈l,0≤z∧z≤255
def Wx (z:Int):List AV:=[I z]
def Za (l:List Int):List (List AV):=l.map Wx
structure Id where
 core:Int
 op:Int
 part:Int
 deriving DecidableEq
def idc (i:Id):List AV:=[I i.core,I i.op,I i.part]
def Zb (l:List Id):List (List AV):=l.map idc
theorem Yf {α β:Type} {f:α→β} {p:α→Prop} : ∀ (xs:List β),(∀ x∈xs,∃ a,x=f a∧p a)→∃ l:List α,xs=l.map f∧∀ a∈l,p a
 | [], _ => ⟨[], rfl, by simp⟩
 | x :: xs, h => by
  obtain ⟨a,h1,h2⟩:=h x (by simp)
  obtain ⟨l,h3,h4⟩:=Yf xs fun y hy=>h y (by simp [hy])
  refine ⟨a::l,by rw [h1,h3];rfl,fun b hb=>?_⟩
  rcases List.mem_cons.1 hb with rfl | hb
  ·exact h2
  ·exact h4 b hb
def ZrT:List TypeId:=[3,5,22,23,50,56]
theorem ZCa (t:TypeId) (h:ZrT.contains t=true):Zb1 Tryz.prog 12 t=true∧t < Tryz.prog.types.size∧Tryz.prog.readableRec t=true:=by
 have h2:ZrT.all (fun t=>Zb1 Tryz.prog 12 t&&decide (t < Tryz.prog.types.size)&&Tryz.prog.readableRec t)=true:=by kernel_rfl
 rw [List.all_eq_true] at h2
 have:=h2 t (by simpa using h)
 simpa [and_assoc] using this
end Go.Proofs.YtjldbnbdcmfbmaaGreat
end

section
namespace Go.Proofs.YtjldbnbdcmfbmaaGreat
open Go Go.AM
set_option linter.unusedSimpArgs false
set_option linter.unusedVariables false
set_option maxRecDepth 100000
def VV (k b:Int):Bool:=decide ((k=1∧6≤b∧b≤40)∨(k=2∧12≤b∧b≤40)∨(k=3∧b=12)∨(k=4∧b=6)∨(k=5∧b=10)∨(k=6∧b=16))
theorem ZDX (k b:Int):ZCe k b=some (VV k b):=by
 rw [Zsx]
 repeat' split
 all_goals (refine congrArg some ?_;rw [Zk];simp only [VV,CQ] at *; omega)
def Zi3 (k:Int):Int:=if k=3 then 12 else if k=4 then 6 else if k=5 then 10 else if k=6 then 16 else 0
theorem ZDR (k:Int):Zz6 k=some (Zi3 k):=by
 rw [Zs5]
 simp only [CQ,Zi3]
 repeat' split
 all_goals first | rfl | omega
theorem ZDq (k b:Int):ZyA k b=some (VV k b):=by
 rw [ZrK]
 simp only [ZDR,Option.bind_some]
 repeat' split
 all_goals (refine congrArg some ?_;rw [Zk];simp only [VV,CQ] at *; first | omega | (rcases (by omega:k=3∨k=4∨k=5∨k=6) with rfl | rfl | rfl | rfl<;>simp [Zi3]))
def ZbS (w l:Int):Bool:=decide ((w=32∧0≤l∧l≤1)∨(w=39∧0≤l∧l≤2))
theorem ZEq (w l:Int):ZzR w l=some (ZbS w l):=by
 rw [ZsM]
 repeat' split
 all_goals (refine congrArg some ?_;rw [Zk];simp only [ZbS,CQ] at *; omega)
theorem ZC3 (w l:Int):ZyC w l=some (ZbS w l):=by
 rw [Ztc]
 repeat' split
 all_goals (refine congrArg some ?_;rw [Zk];simp only [ZbS,CQ] at *; omega)
def Vt (a b:Int):Bool:=decide (6≤b∧b≤40∧0≤a∧a % 2^b.toNat=0∧a+2^b.toNat≤1099511627776)
theorem Zk1 {b:Int} (h:b≤40):(2:Int)^b.toNat≤1099511627776:=by
 have:=Znp (m:=b.toNat) (n:=40) (by omega)
 have e:(2:Int)^40=1099511627776:=by decide
 omega
theorem Zi8 {a:Int} {n:Nat} (h:0≤a):iop .rem .i64 a (2^n)=a % 2^n:=Int.tmod_eq_emod_of_nonneg h
theorem ZxA {b:Int} (h:b≤40):iop .sub .i64 1099511627776 (2^b.toNat)=1099511627776-2^b.toNat:=by
 have:=Zk1 h
 have:=Yu b.toNat
 exact Zah (by omega) (by omega)
theorem ZEc (a b:Int):ZCF a b=some (Vt a b):=by
 have hp:=Yu b.toNat
 rw [Zr0]
 by_cases h1:6≤b∧b≤40∧0≤a
 ·obtain ⟨h1,h2,h3⟩:=h1
  have hs:iop .shl .i64 1 b=2^b.toNat:=Zuo (by omega)
  have hr:ZE ((0:Int)≤b)=fun (x:Option Bool)=>x:=funext fun x=>Zj (by omega) x
  have hn:ZE (((2:Int)^b.toNat)≠0)=fun (x:Option Bool)=>x:=funext fun x=>Zj (by omega) x
  simp only [hs,hr,hn,Zi8 h3,ZxA h2]
  repeat' split
  all_goals (refine congrArg some ?_;rw [Zk];simp only [Vt,CQ] at *; omega)
 ·have hf:Vt a b=false:=by simp only [Vt,decide_eq_false_iff_not];omega
  rw [hf]
  repeat' split
  all_goals first | rfl | (exfalso;simp only [CQ] at *; omega)
theorem ZyZ (a b:Int):Zro a b=some (Vt a b):=by
 have hp:=Yu b.toNat
 rw [Ztk]
 by_cases h1:6≤b∧b≤40∧0≤a
 ·obtain ⟨h1,h2,h3⟩:=h1
  have hw:IntKind.wrap .u64 b=b:=Ys (by omega) (by omega)
  have hs:iop .shl .i64 1 b=2^b.toNat:=Zuo (by omega)
  have hr:ZE ((0:Int)≤b)=fun (x:Option Bool)=>x:=funext fun x=>Zj (by omega) x
  have hn:ZE (((2:Int)^b.toNat)≠0)=fun (x:Option Bool)=>x:=funext fun x=>Zj (by omega) x
  have h40:=Zk1 h2
  simp only [hw,hs,hr,hn,Zi8 h3]
  repeat' split
  all_goals (refine congrArg some ?_;rw [Zk];simp only [Vt,CQ] at *; first | omega | (rw [JC (by omega) (by omega)] at *; omega))
 ·have hf:Vt a b=false:=by simp only [Vt,decide_eq_false_iff_not];omega
  rw [hf]
  repeat' split
  all_goals first | rfl | (exfalso;simp only [CQ] at *; omega)
def ZbW (a b:Int):Int:=if Vt a b=true then a+2^b.toNat else 0
theorem Zcr {a b:Int} (h:Vt a b=true):6≤b∧b≤40∧0≤a∧a % 2^b.toNat=0∧a+2^b.toNat≤1099511627776:=by simpa [Vt] using h
theorem ZsI {a b:Int} (h:Vt a b=true):iop .add .i64 a (iop .shl .i64 1 b)=ZbW a b:=by
 obtain ⟨h1,h2,h3,h4,h5⟩:=Zcr h
 have:=Yu b.toNat
 rw [Zuo (by omega),JC (by omega) (by omega),ZbW,if_pos h]
def Zxw (a b c d:Int):Bool:=Vt a b&&Vt c d&&decide (a < ZbW c d)&&decide (c < ZbW a b)
def inB (a b c d:Int):Bool:=Vt a b&&Vt c d&&decide (a≤c)&&decide (ZbW c d≤ZbW a b)
structure Cap where
 kind:Int
 base:Int
 bits:Int
 rights:Int
 width:Int
 level:Int
 device:Bool
theorem ZDA (k b s r w l:Int) (d:Bool):ZBL k b s r w l d=some (b,s):=ZsZ ..
theorem Zq4 (k b s r w l:Int) (d:Bool):Zms k b s r w l d=some (b,s):=ZtH ..
def Ka (c:Cap):Bool:=VV c.kind c.bits&&Vt c.base c.bits&&decide (0≤c.rights∧c.rights≤7)&&(if c.kind=3 then ZbS c.width c.level else decide (c.width=0∧c.level=0))&&(!c.device||decide (c.kind=1)||decide (c.kind=2))
theorem ZC1 (k b s r w l:Int) (d:Bool):Zzl k b s r w l d=some (Ka ⟨k,b,s,r,w,l,d⟩):=by
 rw [ZsF]
 simp only [ZDX,ZDA,ZEc,ZEq,Option.bind_some]
 repeat' split
 all_goals (refine congrArg some ?_;rw [Zk];simp only [Ka,CQ] at *; grind)
theorem Zzi (k b s r w l:Int) (d:Bool):Zux k b s r w l d=some (Ka ⟨k,b,s,r,w,l,d⟩):=by
 rw [ZsL]
 simp only [ZDq,Zq4,ZyZ,ZC3,Option.bind_some]
 repeat' split
 all_goals (refine congrArg some ?_;rw [Zk];simp only [Ka,CQ] at *; grind)
end Go.Proofs.YtjldbnbdcmfbmaaGreat
end

section
namespace Go.Proofs.YtjldbnbdcmfbmaaGreat
open Go Go.AM
set_option linter.unusedSimpArgs false
set_option linter.unusedVariables false
set_option maxRecDepth 100000
def ZoC (obj a sz bits r w l:Int) (d:Bool) (j:Nat):List AV:=[I obj,I (a+j*sz),I bits,I r,I w,I l,B d]
def Kh (obj a sz bits r w l:Int) (d:Bool) (n:Nat):List (List AV):=(List.range n).map (ZoC obj a sz bits r w l d)
theorem Zfr (obj a sz bits r w l:Int) (d:Bool) (n:Nat):Kh obj a sz bits r w l d (n+1)=Kh obj a sz bits r w l d n++[ZoC obj a sz bits r w l d n]:=by
 simp [Kh,List.range_succ]
theorem ZbP (obj a sz bits r w l:Int) (d:Bool) (n:Nat):(Kh obj a sz bits r w l d n).length=n:=by simp [Kh]
theorem Kr {n:Nat} (h:n < 2^64):n < Zr:=by
 have:Zr=1208925819614629174706176:=rfl
 omega
theorem ZnG {a b:List (List AV)} {k:Nat} (h:(a.length+b.length)*(k+1)≤1099511627776):Jw a b k:=h
theorem Zpw {k b:Int} (h:VV k b=true):6≤b∧b≤40:=by
 simp only [VV,decide_eq_true_eq] at h
 omega
theorem Zn3 {c:Cap} (h:Ka c=true):Vt c.base c.bits=true:=by
 simp only [Ka,Bool.and_eq_true] at h
 exact h.1.1.1.2
def Zdp (c:Cap) (obj bits level width off cnt:Int):Int:=
 if Ka c=false∨c.kind≠1 then 5
 else if iop .and .i64 c.rights 2=0 then 8
 else if VV obj bits=false∨(obj=3∧ZbS width level=false)∨cnt < 1∨8 < cnt∨off < 0 then 1
 else if c.device=true∧obj≠1∧obj≠2 then 5
 else if off % 2^bits.toNat≠0∨2^c.bits.toNat-cnt*2^bits.toNat < off∨(obj=1∧c.bits≤bits) then 6
 else 0
def Wy (c:Cap) (obj bits level width off cnt:Int):List (List AV):=
 if Zdp c obj bits level width off cnt=0 then Kh obj (c.base+off) (2^bits.toNat) bits c.rights (if obj=3 then width else 0) (if obj=3 then level else 0) c.device cnt.toNat else []
theorem ZiP {c:Cap} {obj bits level width off cnt e:Int} (he:e≠0) (h:Zdp c obj bits level width off cnt=e) :
  some (E0,e)=some (Wy c obj bits level width off cnt,Zdp c obj bits level width off cnt):=by
 simp only [Wy,h,if_neg he]
theorem ZoU {c:Cap} {obj bits off cnt:Int} (hc:Ka c=true) (hs:VV obj bits=true) (h1:1≤cnt) (h2:cnt≤8) (h3:0≤off) :
  iop .shl .i64 1 bits=2^bits.toNat∧iop .rem .i64 off (2^bits.toNat)=off % 2^bits.toNat∧iop .shl .i64 1 c.bits=2^c.bits.toNat∧iop .mul .i64 cnt (2^bits.toNat)=cnt*2^bits.toNat∧
   iop .sub .i64 (2^c.bits.toNat) (cnt*2^bits.toNat)=2^c.bits.toNat-cnt*2^bits.toNat∧(2:Int)^bits.toNat≠0∧0≤bits∧0≤c.bits∧0≤c.base∧c.base+2^c.bits.toNat≤1099511627776∧
   0 < (2:Int)^bits.toNat∧(2:Int)^bits.toNat≤1099511627776∧(2:Int)^bits.toNat≤cnt*2^bits.toNat∧0 < (2:Int)^c.bits.toNat∧bits≤40∧c.bits≤40:=by
 obtain ⟨b1,b2⟩:=Zpw hs
 obtain ⟨r1,r2,r3,r4,r5⟩:=Zcr (Zn3 hc)
 have p1:=Yu bits.toNat
 have p2:=Yu c.bits.toNat
 have q1:=Zk1 b2
 have q2:=Zk1 r2
 have m1:cnt*2^bits.toNat≤8*2^bits.toNat:=Int.mul_le_mul_of_nonneg_right (by omega) (by omega)
 have m2:1*2^bits.toNat≤cnt*2^bits.toNat:=Int.mul_le_mul_of_nonneg_right (by omega) (by omega)
 refine ⟨Zuo (by omega),Zi8 (by omega),Zuo (by omega),Zx4 (by omega) (by omega),Ziq (by omega) (by omega),by omega,by omega,by omega,r3,r5,p1,q1,by omega,p2,b2,r2⟩
theorem Zi0 {γ:Type} {p:Prop} {_:Decidable p} (h:p):(ZE p:Option γ→Option γ)=fun x=>x:=funext fun x=>Zj h x
theorem Zmz:∃ f,Zr=f+1+1+1+1+1+1:=⟨Zr-6,by decide⟩
end Go.Proofs.YtjldbnbdcmfbmaaGreat
end

section
namespace Go.Proofs.YtjldbnbdcmfbmaaGreat
open Go Go.AM
set_option linter.unusedSimpArgs false
set_option linter.unusedVariables false
set_option maxRecDepth 100000
abbrev ZDr:List Sh:=[.int .i64,.int .i64,.int .i64]
def Vw (i:Id):Bool:=decide (0≤i.core∧i.core < 32∧1≤i.op∧i.op≤1073741824∧0≤i.part∧i.part < 8)
theorem s99 (a b c:Int):g99 a b c=some (Vw ⟨a,b,c⟩):=by
 rw [ZwP]
 repeat' split
 all_goals (refine congrArg some ?_;rw [Zk];simp only [Vw,CQ] at *; omega)
theorem ZDF (a:Int):ZyT a=some false:=by
 rw [Ztr]
 simp [cop]
def Zrd (a b:Int):Int:=if a < b then -1 else if b < a then 1 else 0
theorem ZD3 (a b:Int):Zxo a b=some (Zrd a b):=by
 rw [ZsT]
 simp only [ZDF,Option.bind_some,Bool.false_eq_true,if_false]
 by_cases h1:a < b
 ·rw [if_pos (by simp only [CQ];omega),Zrd,if_pos h1]
 ·by_cases h2:b < a
  ·rw [if_neg (by simp only [CQ];omega),if_pos (by simp only [CQ];omega),Zrd,if_neg h1,if_pos h2]
  ·rw [if_neg (by simp only [CQ];omega),if_neg (by simp only [CQ];omega),Zrd,if_neg h1,if_neg h2]
def Zab (x y z:Int):Int:=if x≠0 then x else if y≠0 then y else z
theorem ZDO (x y z:Int):Zz3 (((E0++[[AV.val (.int .i64 x)]])++[[AV.val (.int .i64 y)]])++[[AV.val (.int .i64 z)]])=some (Zab x y z):=by
 obtain ⟨f,hf⟩:=Zmz
 have e:(((E0++[[AV.val (.int .i64 x)]])++[[AV.val (.int .i64 y)]])++[[AV.val (.int .i64 z)]]) = [Wx x,Wx y,Wx z]:=rfl
 have e1:iop .add .i64 0 1=1:=by decide
 have e2:iop .add .i64 1 1=2:=by decide
 have e3:iop .add .i64 2 1=3:=by decide
 have hl:(([Wx x,Wx y,Wx z] : List (List AV)).length:Int)=3:=rfl
 rw [Zsa,e,hf,hl]
 rw [ZaB,if_pos (by decide),YX (sh:=[.int .i64]) (cs:=Wx x) (r:=x) _ (by decide) rfl rfl]
 by_cases hx:x=0
 ·rw [if_neg (by simp only [CQ];omega),e1,ZaB,if_pos (by decide),YX (sh:=[.int .i64]) (cs:=Wx y) (r:=y) _ (by decide) rfl rfl]
  by_cases hy:y=0
  ·rw [if_neg (by simp only [CQ];omega),e2,ZaB,if_pos (by decide),YX (sh:=[.int .i64]) (cs:=Wx z) (r:=z) _ (by decide) rfl rfl]
   by_cases hz:z=0
   ·rw [if_neg (by simp only [CQ];omega),e3,ZaB,if_neg (by decide)]
    simp [Zab,hx,hy,hz]
   ·rw [if_pos (by simp only [CQ];omega)]
    simp [Zab,hx,hy]
  ·rw [if_pos (by simp only [CQ];omega)]
   simp [Zab,hx,hy]
 ·rw [if_pos (by simp only [CQ];omega)]
  simp [Zab,hx]
theorem ZFc (a b c d e f:Int):Zzt a b c d e f=some (Zab (Zrd a d) (Zrd b e) (Zrd c f)):=by
 rw [Zsg]
 simp only [ZD3,Option.bind_some,ZDO]
def ZuG (a b c d e f:Int):Bool:=decide (a < d∨(a=d∧(b < e∨(b=e∧c < f))))
theorem ZDe (a b c d e f:Int):Zyq a b c d e f=some (ZuG a b c d e f):=by
 rw [Zua,ZFc,Option.bind_some]
 refine congrArg some ?_
 rw [Zk]
 simp only [ZuG,CQ,Zrd,Zab]
 repeat' split
 all_goals omega
theorem ZJ (l:List Id):(Zb l).length=l.length:=by simp [Zb]
theorem Zku (l:List Id) (n:Nat):(Zb l).take n=Zb (l.take n):=by simp [Zb,List.map_take]
theorem Zwt {l:List Id} {i:Nat} {x:Id} (h:l[i]? = some x):(Zb l)[i]? = some (idc x):=by simp [Zb,h]
theorem VS {γ:Type} {l:List Id} {i:Int} {x:Id} (k:(Int×Int×Int)→Option γ) (h0:0≤i) (h:l[i.toNat]? = some x):Zm (Zb l) i ZDr k=k (x.core,x.op,x.part):=
 YX (sh:=ZDr) (r:=(x.core,x.op,x.part)) k h0 (Zwt h) rfl
theorem YB (a b c d e f:Int):((cop .eql a d&&(cop .eql b e&&(cop .eql c f&&true)))=true)↔((⟨a,b,c⟩:Id)=⟨d,e,f⟩):=by
 simp only [CQ,Id.mk.injEq,and_true]
theorem ZEZ {l:List Id} (hl:l.length < 2^63) (a b c:Int):∀ (j i fuel:Nat),l.length=i+j→j < fuel→∃ r,Zh9 fuel (Zb l) a b c (l.length:Int) i=some r∧(0≤r↔(⟨a,b,c⟩:Id)∈l.drop i):=by
 intro j
 induction j with
 | zero =>
  intro i fuel h hf
  obtain ⟨f,rfl⟩:∃ f,fuel=f+1:=⟨fuel-1,by omega⟩
  refine ⟨-1,by rw [ZhZ,if_neg (by simp only [CQ];omega)],?_⟩
  rw [List.drop_of_length_le (by omega)]
  simp
 | succ j ih =>
  intro i fuel h hf
  obtain ⟨f,rfl⟩:∃ f,fuel=f+1:=⟨fuel-1,by omega⟩
  have hi:i < l.length:=by omega
  have hat:l[(i:Int).toNat]? = some l[i]:=by simp
  have a4:iop .add .i64 i 1=((i+1:Nat):Int):=by rw [JC (by omega) (by omega)];omega
  rw [ZhZ,if_pos (by simp only [CQ];omega),VS _ (by omega) hat,a4,List.drop_eq_getElem_cons hi]
  by_cases he:(⟨a,b,c⟩:Id)=l[i]
  ·refine ⟨i,?_,?_⟩
   ·rw [if_pos]
    rw [YB]
    exact he
   ·rw [List.mem_cons]
    exact ⟨fun _=>.inl he,fun _=>by omega⟩
  ·obtain ⟨r,h1,h2⟩:=ih (i+1) f (by omega) (by omega)
   refine ⟨r,?_,?_⟩
   ·rw [if_neg,h1]
    rw [YB]
    exact he
   ·rw [h2,List.mem_cons]
    simp [he]
theorem ZED (l:List Id) (hl:l.length < 2^63) (a b c:Int):ZBm (Zb l) a b c=some (l.contains ⟨a,b,c⟩):=by
 obtain ⟨r,h1,h2⟩:=ZEZ hl a b c l.length 0 Zr (by omega) (Kr (by omega))
 rw [Zr4,ZrZ,ZJ]
 have h1':Zh9 Zr (Zb l) a b c (l.length:Int) 0=some r:=h1
 rw [h1',Option.bind_some]
 refine congrArg some ?_
 rw [Zk]
 simp only [CQ,List.contains_iff_mem]
 rw [List.drop_zero] at h2
 exact h2
structure Yz where
 id:Id
 path:List Id
 cap:Cap
def Vg (n:Yz) (i:Nat):Bool:=match n.path[i]? with | none=>true | some x=>Vw x&&decide (x≠n.id)&&!(n.path.take i).contains x
def ZD (n:Yz):Bool:=Vw n.id&&Ka n.cap&&decide (n.path.length≤8)&&(List.range n.path.length).all (Vg n)
theorem l95 (n:Yz) (hl:n.path.length < 2^63):∀ (j i fuel:Nat),n.path.length=i+j→j < fuel→
  ZqK fuel n.id.core n.id.op n.id.part (Zb n.path) n.cap.kind n.cap.base n.cap.bits n.cap.rights n.cap.width n.cap.level n.cap.device (Zb n.path) (n.path.length:Int) i=some ((List.range' i j).all (Vg n)):=by
 intro j
 induction j with
 | zero =>
  intro i fuel h hf
  obtain ⟨f,rfl⟩:∃ f,fuel=f+1:=⟨fuel-1,by omega⟩
  rw [Zj2,if_neg (by simp only [CQ];omega)]
  rfl
 | succ j ih =>
  intro i fuel h hf
  obtain ⟨f,rfl⟩:∃ f,fuel=f+1:=⟨fuel-1,by omega⟩
  have hi:i < n.path.length:=by omega
  have hat:n.path[(i:Int).toNat]? = some n.path[i]:=by simp
  have a4:iop .add .i64 i 1=((i+1:Nat):Int):=by rw [JC (by omega) (by omega)];omega
  have hp:Vg n i=(Vw n.path[i]&&decide (n.path[i]≠n.id)&&!(n.path.take i).contains n.path[i]):=by
   unfold Vg
   rw [List.getElem?_eq_getElem hi]
  have hlt:(n.path.take i).length < 2^63:=by rw [List.length_take];omega
  rw [Zj2,if_pos (by simp only [CQ];omega),VS _ (by omega) hat,a4,List.range'_succ,List.all_cons,hp]
  simp only [s99,Option.bind_some]
  cases h1:Vw n.path[i] with
  | false => simp
  | true =>
   rw [if_neg (by simp)]
   by_cases h2:n.path[i]=n.id
   ·rw [if_pos (by rw [YB];exact h2)]
    simp [h2]
   ·rw [if_neg (by rw [YB];exact h2),Zj (by omega),Zj (by rw [ZJ];omega),Int.toNat_natCast,Zku,ZED _ hlt,Option.bind_some]
    cases h3:(n.path.take i).contains n.path[i] with
    | true => simp
    | false =>
     rw [if_neg (by simp)]
     have:=ih (i+1) f (by omega) (by omega)
     rw [this]
     simp [h2]
theorem s95 (n:Yz) (hl:n.path.length < 2^63):g95 n.id.core n.id.op n.id.part (Zb n.path) n.cap.kind n.cap.base n.cap.bits n.cap.rights n.cap.width n.cap.level n.cap.device=some (ZD n):=by
 rw [Zu8]
 simp only [s99,ZC1,Option.bind_some,ZJ]
 unfold ZD
 cases h1:Vw n.id with
 | false => simp [show (⟨n.id.core, n.id.op, n.id.part⟩ : Id) = n.id from rfl, h1]
 | true =>
  cases h2:Ka n.cap with
  | false => simp [show (⟨n.id.core, n.id.op, n.id.part⟩ : Id) = n.id from rfl, h1, show (⟨n.cap.kind, n.cap.base, n.cap.bits, n.cap.rights, n.cap.width, n.cap.level, n.cap.device⟩ : Cap) = n.cap from rfl, h2]
  | true =>
   rw [if_neg (by simp),if_neg (by simp)]
   by_cases h3:n.path.length≤8
   ·rw [if_neg (by simp only [CQ];omega)]
    have:=l95 n hl n.path.length 0 Zr (by omega) (Kr (by omega))
    have e:(List.range' 0 n.path.length)=List.range n.path.length:=(List.range_eq_range' ..).symm
    rw [e] at this
    refine this.trans ?_
    simp [h3]
   ·rw [if_pos (by simp only [CQ];omega)]
    simp [h3]
end Go.Proofs.YtjldbnbdcmfbmaaGreat
end

section
namespace Go.Proofs.YtjldbnbdcmfbmaaGreat
open Go Go.AM
set_option linter.unusedSimpArgs false
set_option linter.unusedVariables false
set_option maxRecDepth 100000
theorem ZuN (a b c:Int):Zq6 a b c=some (Vw ⟨a,b,c⟩):=by
 rw [ZrN]
 repeat' split
 all_goals (refine congrArg some ?_;rw [Zk];simp only [Vw,CQ] at *; omega)
theorem l78 {l:List Id} (hl:l.length < 2^63) (a b c:Int):∀ (j i fuel:Nat),l.length=i+j→j < fuel→Zqy fuel (Zb l) a b c i=some ((l.drop i).contains ⟨a,b,c⟩):=by
 intro j
 induction j with
 | zero =>
  intro i fuel h hf
  obtain ⟨f,rfl⟩:∃ f,fuel=f+1:=⟨fuel-1,by omega⟩
  rw [Zk9,if_neg (by simp only [CQ,ZJ];omega),List.drop_of_length_le (by omega)]
  rfl
 | succ j ih =>
  intro i fuel h hf
  obtain ⟨f,rfl⟩:∃ f,fuel=f+1:=⟨fuel-1,by omega⟩
  have hi:i < l.length:=by omega
  have hat:l[(i:Int).toNat]? = some l[i]:=by simp
  have a4:iop .add .i64 i 1=((i+1:Nat):Int):=by rw [JC (by omega) (by omega)];omega
  rw [Zk9,if_pos (by simp only [CQ,ZJ];omega),VS _ (by omega) hat,a4,List.drop_eq_getElem_cons hi,List.contains_cons]
  by_cases he:l[i]=(⟨a,b,c⟩:Id)
  ·rw [if_pos (by rw [YB];exact he)]
   simp [he]
  ·rw [if_neg (by rw [YB];exact he),ih (i+1) f (by omega) (by omega)]
   have:((⟨a,b,c⟩:Id) == l[i])=false:=by simp;exact fun h=>he h.symm
   rw [this,Bool.false_or]
theorem s78 (l:List Id) (hl:l.length < 2^63) (a b c:Int):g78 (Zb l) a b c=some (l.contains ⟨a,b,c⟩):=by
 have:=l78 hl a b c l.length 0 Zr (by omega) (Kr (by omega))
 rw [Zv4]
 exact this
def ZbC (n:Yz) (i:Nat):Bool:=match n.path[i]? with | none=>true | some x=>Vw x&&!(n.path.take i).contains x
theorem Zlx (n:Yz):ZD n=(Vw n.id&&Ka n.cap&&decide (n.path.length≤8)&&(!n.path.contains n.id&&(List.range n.path.length).all (ZbC n))):=by
 unfold ZD
 congr 1
 rw [Zk]
 simp only [Bool.and_eq_true,List.all_eq_true,List.mem_range,Bool.not_eq_true',← Bool.not_eq_true,List.contains_iff_mem]
 constructor
 ·intro h
  refine ⟨fun hc=>?_,fun i hi=>?_⟩
  ·obtain ⟨i,hi⟩:=List.mem_iff_getElem?.1 hc
   have:=h i (List.getElem?_eq_some_iff.1 hi).1
   unfold Vg at this
   rw [hi] at this
   simp at this
  ·have:=h i hi
   unfold Vg at this
   unfold ZbC
   rw [List.getElem?_eq_getElem hi] at this ⊢
   simp only [Bool.and_eq_true] at this ⊢
   exact ⟨this.1.1,this.2⟩
 ·intro ⟨h1,h2⟩ i hi
  have:=h2 i hi
  unfold ZbC at this
  unfold Vg
  rw [List.getElem?_eq_getElem hi] at this ⊢
  simp only [Bool.and_eq_true,decide_eq_true_eq] at this ⊢
  exact ⟨⟨this.1,fun he=>h1 (he ▸ List.getElem_mem hi)⟩,this.2⟩
theorem l61 (n:Yz) (hl:n.path.length < 2^63):∀ (j i fuel:Nat),n.path.length=i+j→j < fuel→
  Zqe fuel n.id.core n.id.op n.id.part (Zb n.path) n.cap.kind n.cap.base n.cap.bits n.cap.rights n.cap.width n.cap.level n.cap.device i=some ((List.range' i j).all (ZbC n)):=by
 intro j
 induction j with
 | zero =>
  intro i fuel h hf
  obtain ⟨f,rfl⟩:∃ f,fuel=f+1:=⟨fuel-1,by omega⟩
  rw [Zkr,if_neg (by simp only [CQ,ZJ];omega)]
  rfl
 | succ j ih =>
  intro i fuel h hf
  obtain ⟨f,rfl⟩:∃ f,fuel=f+1:=⟨fuel-1,by omega⟩
  have hi:i < n.path.length:=by omega
  have hat:n.path[(i:Int).toNat]? = some n.path[i]:=by simp
  have a4:iop .add .i64 i 1=((i+1:Nat):Int):=by rw [JC (by omega) (by omega)];omega
  have hp:ZbC n i=(Vw n.path[i]&&!(n.path.take i).contains n.path[i]):=by
   unfold ZbC
   rw [List.getElem?_eq_getElem hi]
  have hlt:(n.path.take i).length < 2^63:=by rw [List.length_take];omega
  rw [Zkr,if_pos (by simp only [CQ,ZJ];omega),VS _ (by omega) hat,a4,List.range'_succ,List.all_cons,hp]
  simp only [ZuN,Option.bind_some]
  cases h1:Vw n.path[i] with
  | false => simp
  | true =>
   rw [if_neg (by simp),Zj (by omega),Zj (by rw [ZJ];omega),VS _ (by omega) hat,Int.toNat_natCast,Zku,s78 _ hlt,Option.bind_some]
   cases h3:(n.path.take i).contains n.path[i] with
   | true => simp
   | false =>
    rw [if_neg (by simp)]
    have:=ih (i+1) f (by omega) (by omega)
    rw [this]
    simp
theorem s61 (n:Yz) (hl:n.path.length < 2^63):g61 n.id.core n.id.op n.id.part (Zb n.path) n.cap.kind n.cap.base n.cap.bits n.cap.rights n.cap.width n.cap.level n.cap.device=some (ZD n):=by
 rw [Zxm,Zlx]
 simp only [ZuN,Zzi,Option.bind_some,ZJ,s78 _ hl]
 cases h1:Vw n.id with
 | false => simp [show (⟨n.id.core, n.id.op, n.id.part⟩ : Id) = n.id from rfl, h1]
 | true =>
  cases h2:Ka n.cap with
  | false => simp [show (⟨n.id.core, n.id.op, n.id.part⟩ : Id) = n.id from rfl, h1, show (⟨n.cap.kind, n.cap.base, n.cap.bits, n.cap.rights, n.cap.width, n.cap.level, n.cap.device⟩ : Cap) = n.cap from rfl, h2]
  | true =>
   rw [if_neg (by simp),if_neg (by simp)]
   by_cases h3:n.path.length≤8
   ·rw [if_neg (by simp only [CQ];omega)]
    cases h4:n.path.contains n.id with
    | true => simp
    | false =>
     rw [if_neg (by simp)]
     have:=l61 n hl n.path.length 0 Zr (by omega) (Kr (by omega))
     have e:(List.range' 0 n.path.length)=List.range n.path.length:=(List.range_eq_range' ..).symm
     rw [e] at this
     refine this.trans ?_
     simp [h3]
   ·rw [if_pos (by simp only [CQ];omega)]
    simp [h3]
theorem l69 {l m:List Id} (hl:l.length < 2^63) (hm:l.length=m.length):∀ (j i fuel:Nat),l.length=i+j→j < fuel→ZqD fuel (Zb l) (Zb m) i=some (decide (l.drop i=m.drop i)):=by
 intro j
 induction j with
 | zero =>
  intro i fuel h hf
  obtain ⟨f,rfl⟩:∃ f,fuel=f+1:=⟨fuel-1,by omega⟩
  rw [Zk2,if_neg (by simp only [CQ,ZJ];omega),List.drop_of_length_le (by omega),List.drop_of_length_le (by omega)]
  rfl
 | succ j ih =>
  intro i fuel h hf
  obtain ⟨f,rfl⟩:∃ f,fuel=f+1:=⟨fuel-1,by omega⟩
  have hi:i < l.length:=by omega
  have hi':i < m.length:=by omega
  have hat:l[(i:Int).toNat]? = some l[i]:=by simp
  have hat':m[(i:Int).toNat]? = some m[i]:=by simp
  have a4:iop .add .i64 i 1=((i+1:Nat):Int):=by rw [JC (by omega) (by omega)];omega
  rw [Zk2,if_pos (by simp only [CQ,ZJ];omega),VS _ (by omega) hat,VS _ (by omega) hat',a4,List.drop_eq_getElem_cons hi,List.drop_eq_getElem_cons hi']
  by_cases he:l[i]=m[i]
  ·rw [if_neg (by rw [Bool.not_eq_true',← Bool.not_eq_true,YB];exact fun h=>h he),ih (i+1) f (by omega) (by omega)]
   simp only [he,List.cons.injEq,true_and]
  ·rw [if_pos (by rw [Bool.not_eq_true',← Bool.not_eq_true,YB];exact he)]
   simp only [List.cons.injEq,he,false_and,decide_false]
theorem s69 (l m:List Id) (hl:l.length < 2^63) (hm:m.length < 2^63):g69 (Zb l) (Zb m)=some (decide (l=m)):=by
 rw [Zw5,ZJ,ZJ]
 by_cases h:l.length=m.length
 ·rw [if_neg (by simp only [CQ];omega)]
  have:=l69 hl h l.length 0 Zr (by omega) (Kr (by omega))
  rw [List.drop_zero,List.drop_zero] at this
  exact this
 ·rw [if_pos (by simp only [CQ];omega)]
  have:¬ l=m:=fun he=>h (by rw [he])
  simp [this]
end Go.Proofs.YtjldbnbdcmfbmaaGreat
end

section
namespace Go.Proofs.YtjldbnbdcmfbmaaGreat
open Go Go.AM
set_option linter.unusedSimpArgs false
set_option linter.unusedVariables false
set_option maxRecDepth 100000
theorem J5 {n:Nat} (h:n < 2^63):n+1 < Zr:=by
 have:(2:Nat)^64≤Zr:=by decide
 omega
theorem ZN {i n:Nat} (h:i < n) (hn:n < 2^63):iop .add .i64 (i:Int) 1=((i+1:Nat):Int):=by
 rw [JC (by omega) (by omega)];omega
theorem ZQ {i n:Nat} (h:i < n):(cop .lss (i:Int) (n:Int))=true:=by
 simp only [CQ];omega
theorem ZT {i n:Nat} (h:n≤i):¬ (cop .lss (i:Int) (n:Int))=true:=by
 simp only [CQ];omega
theorem ZW {γ:Type} {F:Nat→Int→Option γ} {n:Nat} {fin bad:Option γ} (p:Nat→Bool) (hn:n < 2^63) (i0:Nat) (hi0:i0≤1)
  (step:∀ k i:Nat,i0≤i→i < n→F (k+1) (i:Int)=if p i=true then F k ((i+1:Nat):Int) else bad)
  (last:∀ k i:Nat,n≤i→F (k+1) (i:Int)=fin):F Zr (i0:Int)=if (List.range' i0 (n-i0)).all p=true then fin else bad:=by
 have key:∀ (j i fuel:Nat),i0≤i→n≤i+j→j < fuel→F fuel (i:Int)=if (List.range' i (n-i)).all p=true then fin else bad:=by
  intro j
  induction j with
  | zero =>
   intro i fuel h0 h hf
   obtain ⟨f,rfl⟩:∃ f,fuel=f+1:=⟨fuel-1,by omega⟩
   rw [last f i (by omega),show n-i=0 by omega]
   rfl
  | succ j ih =>
   intro i fuel h0 h hf
   obtain ⟨f,rfl⟩:∃ f,fuel=f+1:=⟨fuel-1,by omega⟩
   by_cases hi:i < n
   ·rw [step f i h0 hi,show n-i=(n-(i+1))+1 by omega,List.range'_succ,List.all_cons]
    cases hp:p i with
    | true => rw [if_pos rfl, ih (i + 1) f (by omega) (by omega) (by omega), Bool.true_and]
    | false => rw [if_neg Bool.false_ne_true, Bool.false_and, if_neg Bool.false_ne_true]
   ·rw [last f i (by omega),show n-i=0 by omega]
    rfl
 exact key n i0 Zr (Nat.le_refl _) (by omega) (by have:=J5 hn;omega)
theorem YW {F:Nat→Int→Option Int} {n:Nat} (p:Nat→Bool) (hn:n < 2^63)
  (step:∀ k i:Nat,i < n→F (k+1) (i:Int)=if p i=true then some (i:Int) else F k ((i+1:Nat):Int))
  (last:∀ k i:Nat,n≤i→F (k+1) (i:Int)=some (-1)):∃ r,F Zr 0=some r∧cop .geq r 0=(List.range' 0 n).any p:=by
 have key:∀ (j i fuel:Nat),n≤i+j→j < fuel→∃ r,F fuel (i:Int)=some r∧cop .geq r 0=(List.range' i (n-i)).any p:=by
  intro j
  induction j with
  | zero =>
   intro i fuel h hf
   obtain ⟨f,rfl⟩:∃ f,fuel=f+1:=⟨fuel-1,by omega⟩
   rw [last f i (by omega),show n-i=0 by omega]
   exact ⟨_,rfl,rfl⟩
  | succ j ih =>
   intro i fuel h hf
   obtain ⟨f,rfl⟩:∃ f,fuel=f+1:=⟨fuel-1,by omega⟩
   by_cases hi:i < n
   ·rw [step f i hi,show n-i=(n-(i+1))+1 by omega,List.range'_succ,List.any_cons]
    cases hp:p i with
    | true =>
     rw [if_pos rfl,Bool.true_or]
     refine ⟨_,rfl,?_⟩
     simp only [CQ]
     omega
    | false => rw [if_neg Bool.false_ne_true, Bool.false_or]; exact ih (i + 1) f (by omega) (by omega)
   ·rw [last f i (by omega),show n-i=0 by omega]
    exact ⟨_,rfl,rfl⟩
 have:=key n 0 Zr (by omega) (by have:=J5 hn;omega)
 simpa using this
def atB {α:Type} (q:α→Bool) (l:List α) (i:Nat):Bool:=match l[i]? with | some x=>q x | none=>true
theorem Ji {α:Type} (q:α→Bool) {l:List α} {i:Nat} (h:i < l.length):atB q l i=q l[i]:=by
 unfold atB
 rw [List.getElem?_eq_getElem h]
theorem ZbO {α:Type} (q:α→Bool) (l:List α):(List.range' 0 l.length).all (atB q l)=l.all q:=by
 rw [Zk,List.all_eq_true,List.all_eq_true]
 constructor
 ·intro h x hx
  obtain ⟨i,hi,rfl⟩:=List.getElem_of_mem hx
  have:=h i (by simp [List.mem_range',hi])
  rwa [Ji q hi] at this
 ·intro h i hi
  have hi':i < l.length:=by simpa [List.mem_range'] using hi
  rw [Ji q hi']
  exact h _ (List.getElem_mem hi')
theorem Wp {α:Type} (q:α→Bool) (l:List α):(List.range' 0 l.length).any (fun i=>!atB q l i) = !(l.all q):=by
 rw [← ZbO q l,List.any_eq_not_all_not]
 simp
def Vy {α:Type} (lt:α→α→Bool) (l:List α):Nat→Bool
 | 0 => true
 | j + 1 => match l[j]?, l[j + 1]? with | some a, some b => lt a b | _, _ => true
def KL {α:Type} (lt:α→α→Bool) (l:List α):Bool:=(List.range' 0 l.length).all (Vy lt l)
theorem Kv {α:Type} (lt:α→α→Bool) {l:List α} {j:Nat} (h:j+1 < l.length):Vy lt l (j+1)=lt l[j] l[j+1]:=by
 show (match l[j]?,l[j+1]? with | some a,some b=>lt a b | _,_=>true)=_
 rw [List.getElem?_eq_getElem h,List.getElem?_eq_getElem (show j < l.length by omega)]
theorem ZwI {α:Type} (lt:α→α→Bool) (l:List α):(List.range' 1 (l.length-1)).all (Vy lt l)=KL lt l:=by
 unfold KL
 cases l with
 | nil => rfl
 | cons a r => rw [show (a :: r).length = ((a :: r).length - 1) + 1 from rfl, List.range'_succ, List.all_cons]; rfl
theorem Zjr {α:Type} (l:List α) (p q:α→Bool):l.all (fun i=>p i&&q i)=(l.all p&&l.all q):=by
 induction l with
 | nil => rfl
 | cons a r ih => simp only [List.all_cons, ih]; cases p a <;> cases q a <;> cases r.all p <;> rfl
theorem ZcJ {α:Type} (q:α→Bool) (lt:α→α→Bool) (l:List α):(List.range' 0 l.length).all (fun i=>atB q l i&&Vy lt l i)=(l.all q&&KL lt l):=by
 rw [Zjr,ZbO];rfl
structure Call where
 kind:Int
 slot:Int
 dest:Int
 core:Int
 mask:Int
 object:Int
 bits:Int
 level:Int
 offset:Int
 count:Int
 index:Int
 addr:Int
structure Req where
 id:Id
 call:Call
 region:Int
 width:Int
 src:Yz
structure Kx where
 node:Yz
 op:Int
 lock:Id
structure Zcm where
 region:Int
 op:Id
structure Ans where
 op:Int
 err:Int
structure ZI where
 core:Int
 slot:Int
 node:Yz
structure ZeG where
 region:Int
 to:Int
structure V7 where
 number:Int
 members:List Int
 owners:List Int
structure JW where
 slots:List Kx
 pending:List Req
 marks:List Zcm
 answers:List Ans
 entries:List ZI
 commits:List Id
structure JF where
 core:Int
 view:V7
 state:JW
 ready:Bool
 next:V7
 proposal:JW
def ZY (n:Yz):List AV:=[I n.id.core,I n.id.op,I n.id.part,.slice false 3 (Zb n.path),I n.cap.kind,I n.cap.base,I n.cap.bits,I n.cap.rights,I n.cap.width,I n.cap.level,B n.cap.device]
def ZBI (c:Call):List AV:=[I c.kind,I c.slot,I c.dest,I c.core,I c.mask,I c.object,I c.bits,I c.level,I c.offset,I c.count,I c.index,I c.addr]
def Zv (r:Req):List AV:=[I r.id.core,I r.id.op,I r.id.part,I r.call.kind,I r.call.slot,I r.call.dest,I r.call.core,I r.call.mask,I r.call.object,I r.call.bits,I r.call.level,I r.call.offset,I r.call.count,I r.call.index,I r.call.addr,I r.region,I r.width,I r.src.id.core,I r.src.id.op,I r.src.id.part,.slice false 3 (Zb r.src.path),I r.src.cap.kind,I r.src.cap.base,I r.src.cap.bits,I r.src.cap.rights,I r.src.cap.width,I r.src.cap.level,B r.src.cap.device]
def Zg (s:Kx):List AV:=[I s.node.id.core,I s.node.id.op,I s.node.id.part,.slice false 3 (Zb s.node.path),I s.node.cap.kind,I s.node.cap.base,I s.node.cap.bits,I s.node.cap.rights,I s.node.cap.width,I s.node.cap.level,B s.node.cap.device,I s.op,I s.lock.core,I s.lock.op,I s.lock.part]
def Zh (m:Zcm):List AV:=[I m.region,I m.op.core,I m.op.op,I m.op.part]
def Zx (a:Ans):List AV:=[I a.op,I a.err]
def ZU (a:ZeG):List AV:=[I a.region,I a.to]
def Ze (e:ZI):List AV:=[I e.core,I e.slot,I e.node.id.core,I e.node.id.op,I e.node.id.part,.slice false 3 (Zb e.node.path),I e.node.cap.kind,I e.node.cap.base,I e.node.cap.bits,I e.node.cap.rights,I e.node.cap.width,I e.node.cap.level,B e.node.cap.device]
abbrev Zoo:List Sh:=[.int .i64,.int .i64,.int .i64,.slice 3,.int .i64,.int .i64,.int .i64,.int .i64,.int .i64,.int .i64,.bool]
abbrev Zsm:List Sh:=[.int .i64,.int .i64,.int .i64,.int .i64,.int .i64,.int .i64,.int .i64,.int .i64,.int .i64,.int .i64,.int .i64,.int .i64,.int .i64,.int .i64,.int .i64,.int .i64,.int .i64,.int .i64,.int .i64,.int .i64,.slice 3,.int .i64,.int .i64,.int .i64,.int .i64,.int .i64,.int .i64,.bool]
abbrev Zoq:List Sh:=[.int .i64,.int .i64,.int .i64,.slice 3,.int .i64,.int .i64,.int .i64,.int .i64,.int .i64,.int .i64,.bool,.int .i64,.int .i64,.int .i64,.int .i64]
abbrev ZcT:List Sh:=[.int .i64,.int .i64,.int .i64,.int .i64,.int .i64,.slice 3,.int .i64,.int .i64,.int .i64,.int .i64,.int .i64,.int .i64,.bool]
def Zhg (n:Yz):ShsT Zoo:=(n.id.core,n.id.op,n.id.part,Zb n.path,n.cap.kind,n.cap.base,n.cap.bits,n.cap.rights,n.cap.width,n.cap.level,n.cap.device)
def Zmk (r:Req):ShsT Zsm:=(r.id.core,r.id.op,r.id.part,r.call.kind,r.call.slot,r.call.dest,r.call.core,r.call.mask,r.call.object,r.call.bits,r.call.level,r.call.offset,r.call.count,r.call.index,r.call.addr,r.region,r.width,r.src.id.core,r.src.id.op,r.src.id.part,Zb r.src.path,r.src.cap.kind,r.src.cap.base,r.src.cap.bits,r.src.cap.rights,r.src.cap.width,r.src.cap.level,r.src.cap.device)
def Zbt (s:Kx):ShsT Zoq:=(s.node.id.core,s.node.id.op,s.node.id.part,Zb s.node.path,s.node.cap.kind,s.node.cap.base,s.node.cap.bits,s.node.cap.rights,s.node.cap.width,s.node.cap.level,s.node.cap.device,s.op,s.lock.core,s.lock.op,s.lock.part)
def J8 (e:ZI):ShsT ZcT:=(e.core,e.slot,e.node.id.core,e.node.id.op,e.node.id.part,Zb e.node.path,e.node.cap.kind,e.node.cap.base,e.node.cap.bits,e.node.cap.rights,e.node.cap.width,e.node.cap.level,e.node.cap.device)
theorem YI {α γ:Type} {f:α→List AV} {sh:List Sh} {v:α→ShsT sh} (hf:∀ x,ZnV sh (f x)=some (v x)) {l:List α} {i:Nat} (h:i < l.length) (k:ShsT sh→Option γ):Zm (l.map f) (i:Int) sh k=k (v l[i]):=by
 refine YX k (by omega) (cs:=f l[i]) ?_ (hf _)
 rw [Int.toNat_natCast,List.getElem?_map,List.getElem?_eq_getElem h]
 rfl
theorem Yv {γ:Type} {l:List Yz} {i:Nat} (h:i < l.length) (k:ShsT Zoo→Option γ):Zm (l.map ZY) (i:Int) Zoo k=k (Zhg l[i]):=YI (fun _=>rfl) h k
theorem Jz {γ:Type} {l:List Req} {i:Nat} (h:i < l.length) (k:ShsT Zsm→Option γ):Zm (l.map Zv) (i:Int) Zsm k=k (Zmk l[i]):=YI (fun _=>rfl) h k
theorem Jl {γ:Type} {l:List Kx} {i:Nat} (h:i < l.length) (k:ShsT Zoq→Option γ):Zm (l.map Zg) (i:Int) Zoq k=k (Zbt l[i]):=YI (fun _=>rfl) h k
theorem Zq {γ:Type} {l:List ZI} {i:Nat} (h:i < l.length) (k:ShsT ZcT→Option γ):Zm (l.map Ze) (i:Int) ZcT k=k (J8 l[i]):=YI (fun _=>rfl) h k
theorem Ju {γ:Type} {l:List Zcm} {i:Nat} (h:i < l.length) (k:(Int×Int×Int×Int)→Option γ):Zm (l.map Zh) (i:Int) [.int .i64,.int .i64,.int .i64,.int .i64] k=k (l[i].region,l[i].op.core,l[i].op.op,l[i].op.part):=YI (sh:=[.int .i64,.int .i64,.int .i64,.int .i64]) (v:=fun x=>(x.region,x.op.core,x.op.op,x.op.part)) (fun _=>rfl) h k
theorem JS {γ:Type} {l:List Ans} {i:Nat} (h:i < l.length) (k:(Int×Int)→Option γ):Zm (l.map Zx) (i:Int) [.int .i64,.int .i64] k=k (l[i].op,l[i].err):=YI (sh:=[.int .i64,.int .i64]) (v:=fun x=>(x.op,x.err)) (fun _=>rfl) h k
theorem Yh {γ:Type} {l:List ZeG} {i:Nat} (h:i < l.length) (k:(Int×Int)→Option γ):Zm (l.map ZU) (i:Int) [.int .i64,.int .i64] k=k (l[i].region,l[i].to):=YI (sh:=[.int .i64,.int .i64]) (v:=fun x=>(x.region,x.to)) (fun _=>rfl) h k
theorem Vd {γ:Type} {l:List Id} {i:Nat} (h:i < l.length) (k:(Int×Int×Int)→Option γ):Zm (Zb l) (i:Int) [.int .i64,.int .i64,.int .i64] k=k (l[i].core,l[i].op,l[i].part):=YI (f:=idc) (sh:=[.int .i64,.int .i64,.int .i64]) (v:=fun x=>(x.core,x.op,x.part)) (fun _=>rfl) h k
theorem ZG {γ:Type} {l:List Int} {i:Nat} (h:i < l.length) (k:Int→Option γ):Zm (Za l) (i:Int) [.int .i64] k=k l[i]:=YI (f:=Wx) (sh:=[.int .i64]) (v:=fun x=>x) (fun _=>rfl) h k
theorem Kw (i:Id):(⟨i.core,i.op,i.part⟩:Id)=i:=rfl
end Go.Proofs.YtjldbnbdcmfbmaaGreat
end

section
namespace Go.Proofs.YtjldbnbdcmfbmaaGreat
open Go Go.AM
set_option linter.unusedSimpArgs false
set_option linter.unusedVariables false
set_option maxRecDepth 100000
def Zs (z:Int):Bool:=decide (0≤z∧z < 32)
def Z5 (z:Int):Bool:=decide (0≤z∧z < 16)
def JB (z:Int):Bool:=decide (0≤z∧z < 64)
def Zb0 (z:Int):Bool:=decide (0≤z∧z≤99)
def Zbg (i:Id):Bool:=Vw i&&decide (i.part=0)
theorem s34 (z:Int):g34 z=some (Zs z):=by
 rw [ZwZ]
 repeat' split
 all_goals (refine congrArg some ?_;rw [Zk];simp only [Zs,CQ] at *; omega)
theorem s51 (z:Int):g51 z=some (Zs z):=by
 rw [Zw1]
 repeat' split
 all_goals (refine congrArg some ?_;rw [Zk];simp only [Zs,CQ] at *; omega)
theorem s89 (z:Int):g89 z=some (Z5 z):=by
 rw [ZuT]
 repeat' split
 all_goals (refine congrArg some ?_;rw [Zk];simp only [Z5,CQ] at *; omega)
theorem s62 (z:Int):g62 z=some (Z5 z):=by
 rw [Zx9]
 repeat' split
 all_goals (refine congrArg some ?_;rw [Zk];simp only [Z5,CQ] at *; omega)
theorem s96 (z:Int):g96 z=some (JB z):=by
 rw [ZwD]
 repeat' split
 all_goals (refine congrArg some ?_;rw [Zk];simp only [JB,CQ] at *; omega)
theorem s92 (z:Int):g92 z=some (Zb0 z):=by
 rw [Zxv]
 repeat' split
 all_goals (refine congrArg some ?_;rw [Zk];simp only [Zb0,CQ] at *; omega)
theorem s54 (z:Int):g54 z=some (Zb0 z):=by
 rw [Zwz]
 repeat' split
 all_goals (refine congrArg some ?_;rw [Zk];simp only [Zb0,CQ] at *; omega)
theorem s91 (i:Id):g91 i.core i.op i.part=some (Zbg i):=by
 rw [Zxi,s99,Option.bind_some,Kw]
 repeat' split
 all_goals (refine congrArg some ?_;rw [Zk];simp only [Zbg,CQ] at *; grind)
theorem s53 (i:Id):g53 i.core i.op i.part=some (Zbg i):=by
 rw [ZuW,ZuN,Option.bind_some,Kw]
 repeat' split
 all_goals (refine congrArg some ?_;rw [Zk];simp only [Zbg,CQ] at *; grind)
theorem ZFi {l m:List Id} (hl:l.length < 2^63) (h:l.length=m.length):ZcR Zr (Zb l) (Zb m) (l.length:Int) 0=some (decide (l=m)):=by
 have:=ZW (F:=fun k i=>ZcR k (Zb l) (Zb m) (l.length:Int) i) (n:=l.length) (fin:=some true) (bad:=some false) (fun i=>decide (l[i]? = m[i]?)) hl 0 (by omega)
  (fun k i _ hi=>by
   have hm:i < m.length:=by omega
   show ZcR (k+1) _ _ _ _=_
   rw [Zgw,if_pos (ZQ hi),Vd hi,Vd hm,ZN hi hl]
   rw [List.getElem?_eq_getElem hi,List.getElem?_eq_getElem hm]
   by_cases he:l[i]=m[i]
   ·rw [if_neg (by rw [Bool.not_eq_true',← Bool.not_eq_true,YB];exact fun h=>h he),if_pos (by simp [he])]
   ·rw [if_pos (by rw [Bool.not_eq_true',← Bool.not_eq_true,YB];exact he),if_neg (by simp [he])])
  (fun k i hi=>by show ZcR (k+1) _ _ _ _=_;rw [Zgw,if_neg (ZT hi)])
 refine this.trans ?_
 have e:(List.range' 0 (l.length-0)).all (fun i=>decide (l[i]? = m[i]?))=decide (l=m):=by
  rw [Zk,List.all_eq_true,decide_eq_true_eq]
  constructor
  ·intro hh
   refine List.ext_getElem? fun i=>?_
   by_cases hi:i < l.length
   ·exact of_decide_eq_true (hh i (by simp [List.mem_range',hi]))
   ·rw [List.getElem?_eq_none (by omega),List.getElem?_eq_none (by omega)]
  ·rintro rfl i _
   exact decide_eq_true rfl
 rw [e]
 cases decide (l=m)<;>rfl
theorem ZEt (l m:List Id) (hl:l.length < 2^63):ZAs (Zb l) (Zb m)=some (decide (l=m)):=by
 rw [ZtZ,ZJ,ZJ]
 by_cases h:l.length=m.length
 ·rw [if_neg (by simp [cop,h]),ZFi hl h]
 ·rw [if_pos (by simp [cop];omega)]
  have:¬ l=m:=fun he=>h (by rw [he])
  simp [this]
def Vk (a b:Yz):Bool:=decide (a.id=b.id)&&decide (a.cap.kind=b.cap.kind∧a.cap.base=b.cap.base∧a.cap.bits=b.cap.bits∧a.cap.rights=b.cap.rights∧a.cap.width=b.cap.width∧a.cap.level=b.cap.level∧a.cap.device=b.cap.device)&&decide (a.path=b.path)
theorem Zf4 (a b:Cap):(((cop .eql a.kind b.kind)&&((cop .eql a.base b.base)&&((cop .eql a.bits b.bits)&&((cop .eql a.rights b.rights)&&((cop .eql a.width b.width)&&((cop .eql a.level b.level)&&((a.device == b.device)&&true)))))))=true)↔(a.kind=b.kind∧a.base=b.base∧a.bits=b.bits∧a.rights=b.rights∧a.width=b.width∧a.level=b.level∧a.device=b.device):=by
 simp only [CQ,beq_iff_eq,and_true]
theorem ZEi (a b:Yz) (ha:a.path.length < 2^63):ZtW a.id.core a.id.op a.id.part (Zb a.path) a.cap.kind a.cap.base a.cap.bits a.cap.rights a.cap.width a.cap.level a.cap.device b.id.core b.id.op b.id.part (Zb b.path) b.cap.kind b.cap.base b.cap.bits b.cap.rights b.cap.width b.cap.level b.cap.device=some (Vk a b):=by
 rw [Ztw,ZEt _ _ ha,Option.bind_some]
 unfold Vk
 refine JP (fun h=>?_) fun h=>?_
 ·rw [YB] at h
  refine JP (fun h2=>?_) fun h2=>?_
  ·rw [Zf4] at h2
   rw [decide_eq_true (show a.id=b.id from h),decide_eq_true h2];rfl
  ·rw [Zf4] at h2
   rw [decide_eq_true (show a.id=b.id from h),decide_eq_false h2];rfl
 ·rw [YB] at h
  rw [decide_eq_false (show ¬ a.id=b.id from h)];rfl
theorem Zm7 (a b:Yz) (ha:a.path.length < 2^63) (hb:b.path.length < 2^63):Zmy a.id.core a.id.op a.id.part (Zb a.path) a.cap.kind a.cap.base a.cap.bits a.cap.rights a.cap.width a.cap.level a.cap.device b.id.core b.id.op b.id.part (Zb b.path) b.cap.kind b.cap.base b.cap.bits b.cap.rights b.cap.width b.cap.level b.cap.device=some (Vk a b):=by
 rw [Zsw,s69 _ _ ha hb,Option.bind_some]
 unfold Vk
 refine JP (fun h=>?_) fun h=>?_
 ·rw [YB] at h
  refine JP (fun h2=>?_) fun h2=>?_
  ·rw [Zf4] at h2
   rw [decide_eq_true (show a.id=b.id from h),decide_eq_true h2];rfl
  ·rw [Zf4] at h2
   rw [decide_eq_true (show a.id=b.id from h),decide_eq_false h2];rfl
 ·rw [YB] at h
  rw [decide_eq_false (show ¬ a.id=b.id from h)];rfl
def Jo:Yz:=⟨⟨0,0,0⟩,[],⟨0,0,0,0,0,0,false⟩⟩
theorem Zub (a:Yz) (ha:a.path.length < 2^63):ZtW a.id.core a.id.op a.id.part (Zb a.path) a.cap.kind a.cap.base a.cap.bits a.cap.rights a.cap.width a.cap.level a.cap.device 0 0 0 E0 0 0 0 0 0 0 false=some (Vk a Jo):=ZEi a Jo ha
theorem Zw0 (a:Yz) (ha:a.path.length < 2^63):Zmy a.id.core a.id.op a.id.part (Zb a.path) a.cap.kind a.cap.base a.cap.bits a.cap.rights a.cap.width a.cap.level a.cap.device 0 0 0 E0 0 0 0 0 0 0 false=some (Vk a Jo):=Zm7 a Jo ha (by simp [Jo])
def KC (r:Req):Bool:=Zbg r.id&&decide (1≤r.call.kind∧r.call.kind≤6)&&Z5 r.region&&decide (r.width=32∨r.width=39)&&(if r.call.kind=1 then Vk r.src Jo else ZD r.src)
theorem s90 (r:Req) (hr:r.src.path.length < 2^63):g90 r.id.core r.id.op r.id.part r.call.kind r.call.slot r.call.dest r.call.core r.call.mask r.call.object r.call.bits r.call.level r.call.offset r.call.count r.call.index r.call.addr r.region r.width r.src.id.core r.src.id.op r.src.id.part (Zb r.src.path) r.src.cap.kind r.src.cap.base r.src.cap.bits r.src.cap.rights r.src.cap.width r.src.cap.level r.src.cap.device=some (KC r):=by
 rw [ZuQ]
 simp only [s91,s89,Zub _ hr,s95 _ hr,Option.bind_some]
 repeat' split
 all_goals (refine congrArg some ?_;rw [Zk];simp only [KC,CQ] at *; grind)
theorem s52 (r:Req) (hr:r.src.path.length < 2^63):g52 r.id.core r.id.op r.id.part r.call.kind r.call.slot r.call.dest r.call.core r.call.mask r.call.object r.call.bits r.call.level r.call.offset r.call.count r.call.index r.call.addr r.region r.width r.src.id.core r.src.id.op r.src.id.part (Zb r.src.path) r.src.cap.kind r.src.cap.base r.src.cap.bits r.src.cap.rights r.src.cap.width r.src.cap.level r.src.cap.device=some (KC r):=by
 rw [ZwR]
 simp only [s53,s62,Zw0 _ hr,s61 _ hr,Option.bind_some]
 repeat' split
 all_goals (refine congrArg some ?_;rw [Zk];simp only [KC,CQ] at *; grind)
end Go.Proofs.YtjldbnbdcmfbmaaGreat
end

section
namespace Go.Proofs.YtjldbnbdcmfbmaaGreat
open Go Go.AM
set_option linter.unusedSimpArgs false
set_option linter.unusedVariables false
set_option maxRecDepth 100000
theorem ZjG {γ:Type} {F:Nat→Int→Option γ} {n:Nat} {miss:γ} (hit:Nat→γ) (p:Nat→Bool) (hn:n < 2^63)
  (step:∀ k i:Nat,i < n→F (k+1) (i:Int)=if p i=true then some (hit i) else F k ((i+1:Nat):Int))
  (last:∀ k i:Nat,n≤i→F (k+1) (i:Int)=some miss) :
  (∃ i,i < n∧p i=true∧(∀ j,j < i→p j=false)∧F Zr 0=some (hit i))∨((∀ j,j < n→p j=false)∧F Zr 0=some miss):=by
 have key:∀ (j i fuel:Nat),n≤i+j→j < fuel→(∃ m,i≤m∧m < n∧p m=true∧(∀ j,i≤j→j < m→p j=false)∧F fuel (i:Int)=some (hit m))∨((∀ j,i≤j→j < n→p j=false)∧F fuel (i:Int)=some miss):=by
  intro j
  induction j with
  | zero =>
   intro i fuel h hf
   obtain ⟨f,rfl⟩:∃ f,fuel=f+1:=⟨fuel-1,by omega⟩
   exact .inr ⟨fun j h1 h2=>by omega,last f i (by omega)⟩
  | succ j ih =>
   intro i fuel h hf
   obtain ⟨f,rfl⟩:∃ f,fuel=f+1:=⟨fuel-1,by omega⟩
   by_cases hi:i < n
   ·rw [step f i hi]
    cases hp:p i with
    | true => exact .inl ⟨i, Nat.le_refl _, hi, hp, fun j h1 h2 => by omega, if_pos rfl⟩
    | false =>
     rw [if_neg Bool.false_ne_true]
     rcases ih (i+1) f (by omega) (by omega) with ⟨m,h1,h2,h3,h4,h5⟩ | ⟨h1,h2⟩
     ·refine .inl ⟨m,by omega,h2,h3,fun j h6 h7=>?_,h5⟩
      by_cases he:j=i
      ·rw [he];exact hp
      ·exact h4 j (by omega) h7
     ·refine .inr ⟨fun j h6 h7=>?_,h2⟩
      by_cases he:j=i
      ·rw [he];exact hp
      ·exact h1 j (by omega) h7
   ·exact .inr ⟨fun j h1 h2=>by omega,last f i (by omega)⟩
 rcases key n 0 Zr (by omega) (by have:=J5 hn;omega) with ⟨m,_,h2,h3,h4,h5⟩ | ⟨h1,h2⟩
 ·exact .inl ⟨m,h2,h3,fun j hj=>h4 j (by omega) hj,h5⟩
 ·exact .inr ⟨fun j hj=>h1 j (by omega) hj,h2⟩
def zid:Id:=⟨0,0,0⟩
def Zgi (i:Id) (t:Kx):Bool:=!decide (t.node.id=zid)&&decide (t.node.id=i)
def Zbx (s:Kx):Bool:=decide (0≤s.op∧s.op≤1073741824)&&(if s.node.id=zid then Vk s.node Jo&&decide (s.lock=zid) else ZD s.node&&(decide (s.lock=zid)||Zbg s.lock))
def Vb (l:List Kx) (i:Nat):Bool:=match l[i]? with | some s=>!((l.take i).any (Zgi s.node.id)) | none=>true
def Vi (l:List Kx):Bool:=decide (l.length≤64)&&(List.range' 0 l.length).all (fun i=>atB Zbx l i&&Vb l i)
theorem Y7 (a b c:Int):((cop .eql a 0&&(cop .eql b 0&&(cop .eql c 0&&true)))=true)↔((⟨a,b,c⟩:Id)=zid):=YB a b c 0 0 0
theorem ZE3 (s:Kx) (hs:s.node.path.length < 2^63):ZAj s.node.id.core s.node.id.op s.node.id.part (Zb s.node.path) s.node.cap.kind s.node.cap.base s.node.cap.bits s.node.cap.rights s.node.cap.width s.node.cap.level s.node.cap.device s.op s.lock.core s.lock.op s.lock.part=some (Zbx s):=by
 rw [Zsi]
 simp only [Znz,Zub _ hs,s95 _ hs,s99,Option.bind_some,Y7,Kw]
 have e:cop .eql s.lock.part 0=decide (s.lock.part=0):=rfl
 have e2:((cop .eql s.lock.core 0)&&((cop .eql s.lock.op 0)&&((cop .eql s.lock.part 0)&&true)))=decide (s.lock=zid):=by
  rw [Zk,Y7,Kw,decide_eq_true_eq]
 simp only [e2]
 repeat' split
 all_goals (refine congrArg some ?_;rw [Zk];simp only [Zbx,Zbg,CQ] at *; grind)
theorem ZpN {α:Type} (q:α→Bool) (l:List α) (i:Nat) (hi:i≤l.length):(l.take i).any q=true↔∃ j,∃ (h:j < l.length),j < i∧q l[j]=true:=by
 rw [List.any_eq_true]
 constructor
 ·rintro ⟨x,hx,hq⟩
  obtain ⟨j,hj,rfl⟩:=List.getElem_of_mem hx
  rw [List.length_take] at hj
  rw [List.getElem_take] at hq
  exact ⟨j,by omega,by omega,hq⟩
 ·rintro ⟨j,h1,h2,hq⟩
  refine ⟨l[j],?_,hq⟩
  rw [List.mem_iff_getElem]
  exact ⟨j,by rw [List.length_take];omega,by rw [List.getElem_take]⟩
theorem Kk (l:List Kx):(l.map Zg).length=l.length:=List.length_map _
theorem ZEr (l:List Kx) (hl:l.length < 2^63) (a b c:Int):∃ r,ZAO (l.map Zg) a b c=some (r,l.any (Zgi ⟨a,b,c⟩)):=by
 rw [Zuf,Kk]
 have:=ZjG (F:=fun k i=>Zc5 k a b c (l.map Zg) (l.length:Int) i) (n:=l.length) (miss:=((0:Int),false)) (fun i=>((i:Int),true)) (atB (Zgi ⟨a,b,c⟩) l) hl
  (fun k i hi=>by
   show Zc5 (k+1) _ _ _ _ _ _=_
   rw [Zhz,if_pos (ZQ hi)]
   refine (Jl hi _).trans ?_
   simp only [Zbt,d2,d4,d8,d16]
   rw [Znz,Option.bind_some,ZN hi hl,Ji _ hi]
   generalize l[i]=t
   simp only [Y7,YB,Kw,Bool.not_eq_true']
   unfold Zgi
   by_cases h1:t.node.id=zid
   ·rw [if_neg (by simp only [Bool.not_eq_false];rw [Y7];exact h1),if_neg (by simp [h1])]
   ·rw [if_pos (by rw [← Bool.not_eq_true,Y7];exact h1)]
    by_cases h2:t.node.id=⟨a,b,c⟩
    ·rw [if_pos (by exact h2),if_pos (by simp [h1,h2];exact fun h=>h1 (h2.trans h))]
    ·rw [if_neg (by exact h2),if_neg (by simp [h1,h2])])
  (fun k i hi=>by show Zc5 (k+1) _ _ _ _ _ _=_;rw [Zhz,if_neg (ZT hi)])
 rcases this with ⟨i,h1,h2,h3,h4⟩ | ⟨h1,h2⟩
 ·refine ⟨i,?_⟩
  have e:l.any (Zgi ⟨a,b,c⟩)=true:=by
   rw [Ji _ h1] at h2
   exact List.any_eq_true.2 ⟨l[i],List.getElem_mem h1,h2⟩
  rw [e];exact h4
 ·refine ⟨0,?_⟩
  have e:l.any (Zgi ⟨a,b,c⟩)=false:=by
   rw [List.any_eq_false]
   intro x hx
   obtain ⟨j,hj,rfl⟩:=List.getElem_of_mem hx
   have:=h1 j hj
   rw [Ji _ hj] at this
   rw [this];exact Bool.false_ne_true
  rw [e];exact h2
theorem ZE4 (l:List Kx) (hl:l.length < 2^63) (hp:∀ s∈l,s.node.path.length < 2^63):ZA1 (l.map Zg)=some (Vi l):=by
 rw [Zsq,Kk]
 unfold Vi
 refine JP (fun h=>?_) fun h=>?_
 ·rw [decide_eq_false (by simp only [CQ] at h;omega),Bool.false_and]
 ·rw [decide_eq_true (by simp only [CQ] at h;omega),Bool.true_and]
  have:=ZW (F:=fun k i=>ZeU k (l.map Zg) (l.map Zg) (l.length:Int) i) (n:=l.length) (fin:=some true) (bad:=some false) (fun i=>atB Zbx l i&&Vb l i) hl 0 (by omega)
   (fun k i _ hi=>by
    show ZeU (k+1) _ _ _ _=_
    rw [ZhM,if_pos (ZQ hi)]
    refine (Jl hi _).trans ?_
    simp only [Zbt,d2,d4,d8,d16]
    obtain ⟨r,hr⟩:=ZEr (l.take i) (by rw [List.length_take];omega) l[i].node.id.core l[i].node.id.op l[i].node.id.part
    have hu:Vb l i = !((l.take i).any (Zgi l[i].node.id)):=by unfold Vb;rw [List.getElem?_eq_getElem hi]
    rw [ZE3 _ (hp _ (List.getElem_mem hi)),Option.bind_some,Zj (by omega),Zj (by rw [Kk];omega),Int.toNat_natCast,← List.map_take,hr,Option.bind_some,ZN hi hl,Ji _ hi,hu,Kw]
    cases Zbx l[i]<;>cases (l.take i).any (Zgi l[i].node.id)<;>rfl)
   (fun k i hi=>by show ZeU (k+1) _ _ _ _=_;rw [ZhM,if_neg (ZT hi)])
  refine this.trans ?_
  rw [Nat.sub_zero]
  cases (List.range' 0 l.length).all (fun i=>atB Zbx l i&&Vb l i)<;>rfl
theorem ZDG (l:List Kx) (hl:l.length < 2^63) (i:Nat) (hi:i < l.length) (hz:¬ l[i].node.id=zid):∃ r,Zyx (l.map Zg) l[i].node.id.core l[i].node.id.op l[i].node.id.part=some r∧(r=(i:Int)↔Vb l i=true):=by
 rw [ZtO]
 have hself:Zgi l[i].node.id l[i]=true:=by simp [Zgi,hz]
 have hu:Vb l i = !((l.take i).any (Zgi l[i].node.id)):=by unfold Vb;rw [List.getElem?_eq_getElem hi]
 have:=ZjG (F:=fun k j=>ZdL k (l.map Zg) l[i].node.id.core l[i].node.id.op l[i].node.id.part j) (n:=l.length) (miss:=(-1:Int)) (fun j=>(j:Int)) (atB (Zgi l[i].node.id) l) hl
  (fun k j hj=>by
   show ZdL (k+1) _ _ _ _ _=_
   rw [ZgF,Kk,if_pos (ZQ hj)]
   refine (Jl hj _).trans ?_
   simp only [Zbt,d2,d4,d8,d16]
   rw [ZnK,Option.bind_some,ZN hj hl,Ji _ hj]
   generalize l[i].node.id=w
   refine (JP (x:=if Zgi w l[j]=true then some (j:Int) else _) (fun h=>?_) fun h=>?_)
   ·refine (Jl hj _).trans ?_
    simp only [Zbt,d2,d4,d8,d16]
    simp only [Bool.not_eq_true'] at h
    rw [← Bool.not_eq_true,Y7,Kw] at h
    unfold Zgi
    by_cases h2:l[j].node.id=w
    ·simp only [YB,Kw,h2,if_true]
     rw [if_pos (by simp;exact fun h3=>h (h2.trans h3))]
    ·simp only [YB,Kw,h2,if_false]
     rw [if_neg (by simp)]
   ·simp only [Bool.not_eq_true',Bool.not_eq_false] at h
    rw [Y7,Kw] at h
    rw [if_neg (by simp [Zgi,h])])
  (fun k j hj=>by show ZdL (k+1) _ _ _ _ _=_;rw [ZgF,Kk,if_neg (ZT hj)])
 rcases this with ⟨m,h1,h2,h3,h4⟩ | ⟨h1,_⟩
 ·refine ⟨m,h4,?_⟩
  rw [hu,Bool.not_eq_true',← Bool.not_eq_true,ZpN _ _ _ (by omega)]
  constructor
  ·intro he
   have he':m=i:=by omega
   subst he'
   rintro ⟨j,hj,hji,hq⟩
   have:=h3 j hji
   rw [Ji _ hj,hq] at this
   cases this
  ·intro hn
   by_cases hmi:m=i
   ·rw [hmi]
   ·exfalso
    by_cases hlt:m < i
    ·rw [Ji _ h1] at h2
     exact hn ⟨m,h1,hlt,h2⟩
    ·have:=h3 i (by omega)
     rw [Ji _ hi,hself] at this
     cases this
 ·have:=h1 i hi
  rw [Ji _ hi,hself] at this
  cases this
theorem ZDZ (l:List Kx) (hl:l.length < 2^63) (hp:∀ s∈l,s.node.path.length < 2^63):ZAa (l.map Zg)=some (Vi l):=by
 rw [Zr7,Kk]
 unfold Vi
 refine JP (fun h=>?_) fun h=>?_
 ·rw [decide_eq_false (by simp only [CQ] at h;omega),Bool.false_and]
 ·rw [decide_eq_true (by simp only [CQ] at h;omega),Bool.true_and]
  have:=ZW (F:=fun k i=>WX k (l.map Zg) i) (n:=l.length) (fin:=some true) (bad:=some false) (fun i=>atB Zbx l i&&Vb l i) hl 0 (by omega)
   (fun k i _ hi=>by
    show WX (k+1) _ _=_
    rw [Zh1,Kk,if_pos (ZQ hi)]
    refine (Jl hi _).trans ?_
    simp only [Zbt,d2,d4,d8,d16]
    have hps:=hp _ (List.getElem_mem hi)
    have hu:l[i].node.id=zid→Vb l i=true:=by
     intro hz
     unfold Vb
     rw [List.getElem?_eq_getElem hi]
     simp only [Bool.not_eq_true',List.any_eq_false]
     intro t _
     rw [hz]
     simp [Zgi]
    have h128:=ZDG l hl i hi
    rw [Ji _ hi,ZN hi hl]
    generalize WX k (l.map Zg) ((i+1:Nat):Int)=X
    generalize huq:Vb l i=uq at *
    generalize hli:l[i]=t at *
    simp only [ZnK,ZuN,Zw0 _ hps,s61 _ hps,Option.bind_some,Y7,Kw]
    have e2:((cop .eql t.lock.core 0)&&((cop .eql t.lock.op 0)&&((cop .eql t.lock.part 0)&&true)))=decide (t.lock=zid):=by
     rw [Zk,Y7,Kw,decide_eq_true_eq]
    simp only [e2]
    by_cases hz:t.node.id=zid
    ·have:=hu hz
     subst this
     simp only [hz,if_true]
     repeat' split
     all_goals (simp only [Zbx,Zbg,hz,if_true,CQ] at * <;> grind)
    ·obtain ⟨r,hr,hru⟩:=h128 hz
     simp only [hz,if_false,hr,Option.bind_some]
     repeat' split
     all_goals (simp only [Zbx,Zbg,hz,if_false,CQ] at * <;> grind))
   (fun k i hi=>by show WX (k+1) _ _=_;rw [Zh1,Kk,if_neg (ZT hi)])
  refine this.trans ?_
  rw [Nat.sub_zero]
  cases (List.range' 0 l.length).all (fun i=>atB Zbx l i&&Vb l i)<;>rfl
end Go.Proofs.YtjldbnbdcmfbmaaGreat
end

section
namespace Go.Proofs.YtjldbnbdcmfbmaaGreat
open Go Go.AM
set_option linter.unusedSimpArgs false
set_option linter.unusedVariables false
set_option maxRecDepth 100000
theorem Zd4 {j:Nat} (h:j+1 < 2^63):iop .sub .i64 ((j+1:Nat):Int) 1=(j:Int):=by
 rw [Ziq (by omega) (by omega)];omega
theorem ZoJ (j:Nat):cop .gtr ((j+1:Nat):Int) 0=true:=by simp only [CQ];omega
theorem ZnZ:cop .gtr ((0:Nat):Int) 0=false:=rfl
def ZuL (a b:Id):Bool:=ZuG a.core a.op a.part b.core b.op b.part
theorem s82 (a b c d e f:Int):g82 a b c d e f=some (ZuG a b c d e f):=by
 rw [Zvn]
 repeat' split
 all_goals (refine congrArg some ?_;rw [Zk];simp only [ZuG,CQ] at *; omega)
def Y3 (m:Zcm):Bool:=Z5 m.region&&Zbg m.op
def V0 (a:Ans):Bool:=decide (1≤a.op∧a.op≤1073741824)&&Zb0 a.err
def VZ (e:ZI):Bool:=Zs e.core&&JB e.slot&&ZD e.node
def ltp:Req→Req→Bool:=fun a b=>ZuL a.id b.id
theorem ZEY (x:Req) (hx:x.src.path.length < 2^63):ZCb x.id.core x.id.op x.id.part x.call.kind x.call.slot x.call.dest x.call.core x.call.mask x.call.object x.call.bits x.call.level x.call.offset x.call.count x.call.index x.call.addr x.region x.width x.src.id.core x.src.id.op x.src.id.part (Zb x.src.path) x.src.cap.kind x.src.cap.base x.src.cap.bits x.src.cap.rights x.src.cap.width x.src.cap.level x.src.cap.device=some (!KC x):=by
 rw [Zug,s90 x hx,Option.bind_some]
theorem Zqf (l:List Req) (hl:l.length < 2^63) (hp:∀ x∈l,x.src.path.length < 2^63):∃ r,Zf5 (l.map Zv)=some r∧cop .geq r 0 = !(l.all KC):=by
 rw [ZiS,List.length_map]
 have:=YW (F:=fun k i=>KQ k (l.map Zv) (l.length:Int) i) (n:=l.length) (fun i=>!atB KC l i) hl
  (fun k i hi=>by
   show KQ (k+1) _ _ _=_
   rw [ZaI,if_pos (ZQ hi)]
   refine (Jz hi _).trans ?_
   simp only [Zmk,d2,d4,d8,d16]
   rw [ZEY l[i] (hp _ (List.getElem_mem hi)),Option.bind_some,ZN hi hl,Ji _ hi])
  (fun k i hi=>by show KQ (k+1) _ _ _=_;rw [ZaI,if_neg (ZT hi)])
 rw [Wp] at this
 exact this
theorem Zqw (l:List Req) (hl:l.length < 2^63) (hp:∀ x∈l,x.src.path.length < 2^63):Zgh (l.map Zv)=some (!(l.all KC)):=by
 obtain ⟨r,h1,h2⟩:=Zqf l hl hp
 rw [Zit,h1,Option.bind_some,h2]
theorem ZDS (l:List Req) {j:Nat} (hj:j+1 < l.length):ZAm (j:Int) ((j+1:Nat):Int) (l.map Zv)=some (ltp l[j] l[j+1],l.map Zv):=by
 rw [ZtL]
 refine (Jz (show j < l.length by omega) _).trans ?_
 refine (Jz hj _).trans ?_
 simp only [Zmk,d2,d4,d8,d16]
 rw [ZDe,Option.bind_some];rfl
theorem ZqP (l:List Req) (hl:l.length < 2^63):ZfY (l.length:Int) (l.map Zv)=some (KL ltp l,l.map Zv):=by
 rw [ZiO]
 have:=ZW (F:=fun k i=>KO k (l.length:Int) i (l.map Zv)) (n:=l.length) (fin:=some (true,l.map Zv)) (bad:=some (false,l.map Zv)) (Vy ltp l) hl 1 (by omega)
  (fun k i h1 hi=>by
   obtain ⟨j,rfl⟩:∃ j,i=j+1:=⟨i-1,by omega⟩
   show KO (k+1) _ _ _=_
   rw [Za3,if_pos (ZQ hi),Zd4 (by omega),ZDS l hi,Option.bind_some,ZN hi hl,Kv _ hi]
   cases ltp l[j] l[j+1]<;>rfl)
  (fun k i hi=>by show KO (k+1) _ _ _=_;rw [Za3,if_neg (ZT hi)])
 rw [ZwI] at this
 refine Eq.trans this ?_
 cases KL ltp l<;>rfl
theorem ZEu (l:List Req) (hl:l.length < 2^63) (hp:∀ x∈l,x.src.path.length < 2^63):ZBs (l.map Zv)=some (l.all KC&&KL ltp l):=by
 rw [Ztj,Zqw l hl hp,Option.bind_some,List.length_map,ZqP l hl,Option.bind_some]
 cases l.all KC<;>rfl
def ltm:Zcm→Zcm→Bool:=fun a b=>decide (a.region < b.region)
theorem ZEd (x:Zcm):ZBR x.region x.op.core x.op.op x.op.part=some (!Y3 x):=by
 rw [Zuc]
 simp only [s89,s91,Option.bind_some]
 repeat' split
 all_goals (refine congrArg some ?_;rw [Zk];simp only [Y3,CQ] at * <;> grind)
theorem ZpH (l:List Zcm) (hl:l.length < 2^63):∃ r,ZfG (l.map Zh)=some r∧cop .geq r 0 = !(l.all Y3):=by
 rw [Ziw,List.length_map]
 have:=YW (F:=fun k i=>KG k (l.map Zh) (l.length:Int) i) (n:=l.length) (fun i=>!atB Y3 l i) hl
  (fun k i hi=>by
   show KG (k+1) _ _ _=_
   rw [ZaM,if_pos (ZQ hi)]
   refine (Ju hi _).trans ?_
   simp only [d2,d4,d8,d16]
   rw [ZEd l[i],Option.bind_some,ZN hi hl,Ji _ hi])
  (fun k i hi=>by show KG (k+1) _ _ _=_;rw [ZaM,if_neg (ZT hi)])
 rw [Wp] at this
 exact this
theorem Zqj (l:List Zcm) (hl:l.length < 2^63):Ze3 (l.map Zh)=some (!(l.all Y3)):=by
 obtain ⟨r,h1,h2⟩:=ZpH l hl
 rw [ZiW,h1,Option.bind_some,h2]
theorem ZD8 (l:List Zcm) {j:Nat} (hj:j+1 < l.length):ZCf (j:Int) ((j+1:Nat):Int) (l.map Zh)=some (ltm l[j] l[j+1],l.map Zh):=by
 rw [ZrJ]
 refine (Ju (show j < l.length by omega) _).trans ?_
 refine (Ju hj _).trans ?_
 simp only [d2,d4,d8,d16]
 rfl
theorem ZoT (l:List Zcm) (hl:l.length < 2^63):ZfV (l.length:Int) (l.map Zh)=some (KL ltm l,l.map Zh):=by
 rw [Zie]
 have:=ZW (F:=fun k i=>KI k (l.length:Int) i (l.map Zh)) (n:=l.length) (fin:=some (true,l.map Zh)) (bad:=some (false,l.map Zh)) (Vy ltm l) hl 1 (by omega)
  (fun k i h1 hi=>by
   obtain ⟨j,rfl⟩:∃ j,i=j+1:=⟨i-1,by omega⟩
   show KI (k+1) _ _ _=_
   rw [Zak,if_pos (ZQ hi),Zd4 (by omega),ZD8 l hi,Option.bind_some,ZN hi hl,Kv _ hi]
   cases ltm l[j] l[j+1]<;>rfl)
  (fun k i hi=>by show KI (k+1) _ _ _=_;rw [Zak,if_neg (ZT hi)])
 rw [ZwI] at this
 refine Eq.trans this ?_
 cases KL ltm l<;>rfl
theorem ZDE (l:List Zcm) (hl:l.length < 2^63):ZzC (l.map Zh)=some (l.all Y3&&KL ltm l):=by
 rw [ZsR,Zqj l hl,Option.bind_some,List.length_map,ZoT l hl,Option.bind_some]
 cases l.all Y3<;>rfl
def lta:Ans→Ans→Bool:=fun a b=>decide (a.op < b.op)
theorem ZEL (x:Ans):ZAh x.op x.err=some (!V0 x):=by
 rw [ZsS]
 simp only [s92,Option.bind_some]
 repeat' split
 all_goals (refine congrArg some ?_;rw [Zk];simp only [V0,CQ] at * <;> grind)
theorem Zp4 (l:List Ans) (hl:l.length < 2^63):∃ r,Zf0 (l.map Zx)=some r∧cop .geq r 0 = !(l.all V0):=by
 rw [Zii,List.length_map]
 have:=YW (F:=fun k i=>KU k (l.map Zx) (l.length:Int) i) (n:=l.length) (fun i=>!atB V0 l i) hl
  (fun k i hi=>by
   show KU (k+1) _ _ _=_
   rw [ZaS,if_pos (ZQ hi)]
   refine (JS hi _).trans ?_
   simp only [d2,d4,d8,d16]
   rw [ZEL l[i],Option.bind_some,ZN hi hl,Ji _ hi])
  (fun k i hi=>by show KU (k+1) _ _ _=_;rw [ZaS,if_neg (ZT hi)])
 rw [Wp] at this
 exact this
theorem ZqA (l:List Ans) (hl:l.length < 2^63):Zft (l.map Zx)=some (!(l.all V0)):=by
 obtain ⟨r,h1,h2⟩:=Zp4 l hl
 rw [Zjo,h1,Option.bind_some,h2]
theorem ZE1 (l:List Ans) {j:Nat} (hj:j+1 < l.length):ZAw (j:Int) ((j+1:Nat):Int) (l.map Zx)=some (lta l[j] l[j+1],l.map Zx):=by
 rw [Zt3]
 refine (JS (show j < l.length by omega) _).trans ?_
 refine (JS hj _).trans ?_
 simp only [d2,d4,d8,d16]
 rfl
theorem ZoY (l:List Ans) (hl:l.length < 2^63):Zf8 (l.length:Int) (l.map Zx)=some (KL lta l,l.map Zx):=by
 rw [ZiV]
 have:=ZW (F:=fun k i=>KN k (l.length:Int) i (l.map Zx)) (n:=l.length) (fin:=some (true,l.map Zx)) (bad:=some (false,l.map Zx)) (Vy lta l) hl 1 (by omega)
  (fun k i h1 hi=>by
   obtain ⟨j,rfl⟩:∃ j,i=j+1:=⟨i-1,by omega⟩
   show KN (k+1) _ _ _=_
   rw [ZaT,if_pos (ZQ hi),Zd4 (by omega),ZE1 l hi,Option.bind_some,ZN hi hl,Kv _ hi]
   cases lta l[j] l[j+1]<;>rfl)
  (fun k i hi=>by show KN (k+1) _ _ _=_;rw [ZaT,if_neg (ZT hi)])
 rw [ZwI] at this
 refine Eq.trans this ?_
 cases KL lta l<;>rfl
theorem ZDW (l:List Ans) (hl:l.length < 2^63):ZzE (l.map Zx)=some (l.all V0&&KL lta l):=by
 rw [Zsl,ZqA l hl,Option.bind_some,List.length_map,ZoY l hl,Option.bind_some]
 cases l.all V0<;>rfl
def lte:ZI→ZI→Bool:=fun a b=>ZuL a.node.id b.node.id
theorem ZFm (x:ZI) (hx:x.node.path.length < 2^63):Zzx x.core x.slot x.node.id.core x.node.id.op x.node.id.part (Zb x.node.path) x.node.cap.kind x.node.cap.base x.node.cap.bits x.node.cap.rights x.node.cap.width x.node.cap.level x.node.cap.device=some (!VZ x):=by
 rw [Ztn]
 simp only [s34,s96,s95 _ hx,Option.bind_some]
 repeat' split
 all_goals (refine congrArg some ?_;rw [Zk];simp only [VZ,CQ] at * <;> grind)
theorem Zpg (l:List ZI) (hl:l.length < 2^63) (hp:∀ x∈l,x.node.path.length < 2^63):∃ r,Zgc (l.map Ze)=some r∧cop .geq r 0 = !(l.all VZ):=by
 rw [Zjs,List.length_map]
 have:=YW (F:=fun k i=>KK k (l.map Ze) (l.length:Int) i) (n:=l.length) (fun i=>!atB VZ l i) hl
  (fun k i hi=>by
   show KK (k+1) _ _ _=_
   rw [Zbc,if_pos (ZQ hi)]
   refine (Zq hi _).trans ?_
   simp only [J8,d2,d4,d8,d16]
   rw [ZFm l[i] (hp _ (List.getElem_mem hi)),Option.bind_some,ZN hi hl,Ji _ hi])
  (fun k i hi=>by show KK (k+1) _ _ _=_;rw [Zbc,if_neg (ZT hi)])
 rw [Wp] at this
 exact this
theorem ZpY (l:List ZI) (hl:l.length < 2^63) (hp:∀ x∈l,x.node.path.length < 2^63):Ze8 (l.map Ze)=some (!(l.all VZ)):=by
 obtain ⟨r,h1,h2⟩:=Zpg l hl hp
 rw [Zjk,h1,Option.bind_some,h2]
theorem ZEk (l:List ZI) {j:Nat} (hj:j+1 < l.length):ZBP (j:Int) ((j+1:Nat):Int) (l.map Ze)=some (lte l[j] l[j+1],l.map Ze):=by
 rw [ZsC]
 refine (Zq (show j < l.length by omega) _).trans ?_
 refine (Zq hj _).trans ?_
 simp only [J8,d2,d4,d8,d16]
 rw [ZDe,Option.bind_some];rfl
theorem Zqn (l:List ZI) (hl:l.length < 2^63):Zfb (l.length:Int) (l.map Ze)=some (KL lte l,l.map Ze):=by
 rw [Zig]
 have:=ZW (F:=fun k i=>KS k (l.length:Int) i (l.map Ze)) (n:=l.length) (fin:=some (true,l.map Ze)) (bad:=some (false,l.map Ze)) (Vy lte l) hl 1 (by omega)
  (fun k i h1 hi=>by
   obtain ⟨j,rfl⟩:∃ j,i=j+1:=⟨i-1,by omega⟩
   show KS (k+1) _ _ _=_
   rw [Za6,if_pos (ZQ hi),Zd4 (by omega),ZEk l hi,Option.bind_some,ZN hi hl,Kv _ hi]
   cases lte l[j] l[j+1]<;>rfl)
  (fun k i hi=>by show KS (k+1) _ _ _=_;rw [Za6,if_neg (ZT hi)])
 rw [ZwI] at this
 refine Eq.trans this ?_
 cases KL lte l<;>rfl
theorem ZEH (l:List ZI) (hl:l.length < 2^63) (hp:∀ x∈l,x.node.path.length < 2^63):ZAt (l.map Ze)=some (l.all VZ&&KL lte l):=by
 rw [Zt0,ZpY l hl hp,Option.bind_some,List.length_map,Zqn l hl,Option.bind_some]
 cases l.all VZ<;>rfl
theorem ZFb (x:Id):ZB6 x.core x.op x.part=some (!Zbg x):=by
 rw [ZsD,s91,Option.bind_some]
theorem Zp1 (l:List Id) (hl:l.length < 2^63):∃ r,ZfP (Zb l)=some r∧cop .geq r 0 = !(l.all Zbg):=by
 rw [Zir,ZJ]
 have:=YW (F:=fun k i=>KJ k (Zb l) (l.length:Int) i) (n:=l.length) (fun i=>!atB Zbg l i) hl
  (fun k i hi=>by
   show KJ (k+1) _ _ _=_
   rw [Za5,if_pos (ZQ hi)]
   refine (Vd hi _).trans ?_
   dsimp only
   rw [ZFb l[i],Option.bind_some,ZN hi hl,Ji _ hi])
  (fun k i hi=>by show KJ (k+1) _ _ _=_;rw [Za5,if_neg (ZT hi)])
 rw [Wp] at this
 exact this
theorem ZtM (l:List Id) (hl:l.length < 2^63):Zis (Zb l)=some (!(l.all Zbg)):=by
 obtain ⟨r,h1,h2⟩:=Zp1 l hl
 rw [Zlm,h1,Option.bind_some,h2]
def ZiY (ops:Bool) (i:Id):Bool:=Vw i&&(!ops||decide (i.part=0))
theorem s55 (l:List Id) (ops:Bool) (hl:l.length < 2^63):g55 (Zb l) ops=some (l.all (ZiY ops)):=by
 rw [ZxV]
 have:=ZW (F:=fun k i=>ZhD k (Zb l) ops i) (n:=l.length) (fin:=some true) (bad:=some false) (atB (ZiY ops) l) hl 0 (by omega)
  (fun k i _ hi=>by
   show ZhD (k+1) _ _ _=_
   rw [Zk4,ZJ,if_pos (ZQ hi)]
   refine (Vd hi _).trans ?_
   dsimp only
   rw [ZuN,Option.bind_some,ZN hi hl,Ji _ hi,Kw]
   generalize ZhD k (Zb l) ops ((i+1:Nat):Int)=X
   have e:∀ k:(Int×Int×Int)→Option Bool,Zm (Zb l) (i:Int) [.int .i64,.int .i64,.int .i64] k=k (l[i].core,l[i].op,l[i].part):=fun k=>Vd hi k
   simp only [e]
   generalize l[i]=t
   unfold ZiY
   repeat' split
   all_goals (simp only [CQ] at * <;> grind))
  (fun k i hi=>by show ZhD (k+1) _ _ _=_;rw [Zk4,ZJ,if_neg (ZT hi)])
 rw [Nat.sub_zero,ZbO] at this
 refine Eq.trans this ?_
 cases l.all (ZiY ops)<;>rfl
theorem ZzS (l:List ZI) (hl:l.length < 2^63) (hp:∀ x∈l,x.node.path.length < 2^63) (x0 x1 x2 x3 x5:List (List AV)):Zdy Zr x0 x1 x2 x3 (l.map Ze) x5 0=if (l.all VZ&&KL lte l)=true then some true else some false:=by
 have:=ZW (F:=fun k i=>Zdy k x0 x1 x2 x3 (l.map Ze) x5 i) (n:=l.length) (fin:=some true) (bad:=some false) (fun i=>atB VZ l i&&Vy lte l i) hl 0 (by omega)
  (fun k i _ hi=>by
   show Zdy (k+1) x0 x1 x2 x3 (l.map Ze) x5 _=_
   rw [ZkC,List.length_map,if_pos (ZQ hi)]
   refine (Zq hi _).trans ?_
   rw [ZN hi hl,Ji _ hi]
   generalize Zdy k x0 x1 x2 x3 (l.map Ze) x5 ((i+1:Nat):Int)=X
   cases i with
   | zero =>
    simp only [J8,d2,d4,d8,d16,s51,s61 _ (hp _ (List.getElem_mem hi)),s82,Option.bind_some,ZnZ,Bool.false_eq_true,if_false,Vy,Bool.and_true]
    generalize l[0]=t
    repeat' split
    all_goals (simp only [VZ,Z5,JB,CQ] at * <;> grind)
   | succ j =>
    simp only [J8,d2,d4,d8,d16,s51,s61 _ (hp _ (List.getElem_mem hi)),s82,Option.bind_some,ZoJ,if_true,Zd4 (show j+1 < 2^63 by omega),Zq (show j < l.length by omega),Zq hi,Kv _ hi]
    generalize l[j+1]=t
    generalize l[j]=u
    unfold lte ZuL
    repeat' split
    all_goals (simp only [VZ,Z5,JB,CQ] at * <;> grind))
  (fun k i hi=>by show Zdy (k+1) x0 x1 x2 x3 (l.map Ze) x5 _=_;rw [ZkC,List.length_map,if_neg (ZT hi)])
 rw [Nat.sub_zero,ZcJ] at this
 exact this
theorem ZBn (l:List Ans) (hl:l.length < 2^63) (x0 x1 x2 x4 x5:List (List AV)):ZdF Zr x0 x1 x2 (l.map Zx) x4 x5 0=if (l.all V0&&KL lta l)=true then Zdy Zr x0 x1 x2 (l.map Zx) x4 x5 0 else some false:=by
 have:=ZW (F:=fun k i=>ZdF k x0 x1 x2 (l.map Zx) x4 x5 i) (n:=l.length) (fin:=Zdy Zr x0 x1 x2 (l.map Zx) x4 x5 0) (bad:=some false) (fun i=>atB V0 l i&&Vy lta l i) hl 0 (by omega)
  (fun k i _ hi=>by
   show ZdF (k+1) x0 x1 x2 (l.map Zx) x4 x5 _=_
   rw [Zkb,List.length_map,if_pos (ZQ hi)]
   refine (JS hi _).trans ?_
   rw [ZN hi hl,Ji _ hi]
   generalize ZdF k x0 x1 x2 (l.map Zx) x4 x5 ((i+1:Nat):Int)=X
   cases i with
   | zero =>
    simp only [d2,d4,d8,d16,s54,Option.bind_some,ZnZ,Bool.false_eq_true,if_false,Vy,Bool.and_true]
    generalize l[0]=t
    repeat' split
    all_goals (simp only [V0,Z5,JB,CQ] at * <;> grind)
   | succ j =>
    simp only [d2,d4,d8,d16,s54,Option.bind_some,ZoJ,if_true,Zd4 (show j+1 < 2^63 by omega),JS (show j < l.length by omega),JS hi,Kv _ hi]
    generalize l[j+1]=t
    generalize l[j]=u
    unfold lta
    repeat' split
    all_goals (simp only [V0,Z5,JB,CQ] at * <;> grind))
  (fun k i hi=>by show ZdF (k+1) x0 x1 x2 (l.map Zx) x4 x5 _=_;rw [Zkb,List.length_map,if_neg (ZT hi)])
 rw [Nat.sub_zero,ZcJ] at this
 exact this
theorem ZBc (l:List Zcm) (hl:l.length < 2^63) (x0 x1 x3 x4 x5:List (List AV)):Zdu Zr x0 x1 (l.map Zh) x3 x4 x5 0=if (l.all Y3&&KL ltm l)=true then ZdF Zr x0 x1 (l.map Zh) x3 x4 x5 0 else some false:=by
 have:=ZW (F:=fun k i=>Zdu k x0 x1 (l.map Zh) x3 x4 x5 i) (n:=l.length) (fin:=ZdF Zr x0 x1 (l.map Zh) x3 x4 x5 0) (bad:=some false) (fun i=>atB Y3 l i&&Vy ltm l i) hl 0 (by omega)
  (fun k i _ hi=>by
   show Zdu (k+1) x0 x1 (l.map Zh) x3 x4 x5 _=_
   rw [Zkt,List.length_map,if_pos (ZQ hi)]
   refine (Ju hi _).trans ?_
   rw [ZN hi hl,Ji _ hi]
   generalize Zdu k x0 x1 (l.map Zh) x3 x4 x5 ((i+1:Nat):Int)=X
   cases i with
   | zero =>
    simp only [d2,d4,d8,d16,s62,s53 l[0].op,Option.bind_some,ZnZ,Bool.false_eq_true,if_false,Vy,Bool.and_true]
    generalize l[0]=t
    repeat' split
    all_goals (simp only [Y3,Z5,JB,CQ] at * <;> grind)
   | succ j =>
    simp only [d2,d4,d8,d16,s62,s53 l[j+1].op,Option.bind_some,ZoJ,if_true,Zd4 (show j+1 < 2^63 by omega),Ju (show j < l.length by omega),Ju hi,Kv _ hi]
    generalize l[j+1]=t
    generalize l[j]=u
    unfold ltm
    repeat' split
    all_goals (simp only [Y3,Z5,JB,CQ] at * <;> grind))
  (fun k i hi=>by show Zdu (k+1) x0 x1 (l.map Zh) x3 x4 x5 _=_;rw [Zkt,List.length_map,if_neg (ZT hi)])
 rw [Nat.sub_zero,ZcJ] at this
 exact this
theorem ZBW (l:List Req) (hl:l.length < 2^63) (hp:∀ x∈l,x.src.path.length < 2^63) (x0 x2 x3 x4 x5:List (List AV)):ZfJ Zr x0 (l.map Zv) x2 x3 x4 x5 0=if (l.all KC&&KL ltp l)=true then Zdu Zr x0 (l.map Zv) x2 x3 x4 x5 0 else some false:=by
 have:=ZW (F:=fun k i=>ZfJ k x0 (l.map Zv) x2 x3 x4 x5 i) (n:=l.length) (fin:=Zdu Zr x0 (l.map Zv) x2 x3 x4 x5 0) (bad:=some false) (fun i=>atB KC l i&&Vy ltp l i) hl 0 (by omega)
  (fun k i _ hi=>by
   show ZfJ (k+1) x0 (l.map Zv) x2 x3 x4 x5 _=_
   rw [Zlg,List.length_map,if_pos (ZQ hi)]
   refine (Jz hi _).trans ?_
   rw [ZN hi hl,Ji _ hi]
   generalize ZfJ k x0 (l.map Zv) x2 x3 x4 x5 ((i+1:Nat):Int)=X
   cases i with
   | zero =>
    simp only [Zmk,d2,d4,d8,d16,s52 _ (hp _ (List.getElem_mem hi)),s82,Option.bind_some,ZnZ,Bool.false_eq_true,if_false,Vy,Bool.and_true]
    generalize l[0]=t
    repeat' split
    all_goals (simp only [Z5,JB,CQ] at * <;> grind)
   | succ j =>
    simp only [Zmk,d2,d4,d8,d16,s52 _ (hp _ (List.getElem_mem hi)),s82,Option.bind_some,ZoJ,if_true,Zd4 (show j+1 < 2^63 by omega),Jz (show j < l.length by omega),Jz hi,Kv _ hi]
    generalize l[j+1]=t
    generalize l[j]=u
    unfold ltp ZuL
    repeat' split
    all_goals (simp only [Z5,JB,CQ] at * <;> grind))
  (fun k i hi=>by show ZfJ (k+1) x0 (l.map Zv) x2 x3 x4 x5 _=_;rw [Zlg,List.length_map,if_neg (ZT hi)])
 rw [Nat.sub_zero,ZcJ] at this
 exact this
def Yx (s:JW):Bool:=Vi s.slots&&(s.pending.all KC&&KL ltp s.pending)&&(s.marks.all Y3&&KL ltm s.marks)&&(s.answers.all V0&&KL lta s.answers)&&(s.entries.all VZ&&KL lte s.entries)&&s.commits.all Zbg
structure JW.Fits (s:JW):Prop where
 slots:s.slots.length < 2^63
 pending:s.pending.length < 2^63
 marks:s.marks.length < 2^63
 answers:s.answers.length < 2^63
 entries:s.entries.length < 2^63
 commits:s.commits.length < 2^63
 slot:∀ x∈s.slots,x.node.path.length < 2^63
 req:∀ x∈s.pending,x.src.path.length < 2^63
 entry:∀ x∈s.entries,x.node.path.length < 2^63
theorem ZAD (s:JW) (h:s.Fits):ZxK (s.slots.map Zg) (s.pending.map Zv) (s.marks.map Zh) (s.answers.map Zx) (s.entries.map Ze) (Zb s.commits)=some (Yx s):=by
 rw [Zts,ZE4 _ h.slots h.slot,Option.bind_some,ZEu _ h.pending h.req,Option.bind_some,ZDE _ h.marks,Option.bind_some,ZDW _ h.answers,Option.bind_some,ZEH _ h.entries h.entry,Option.bind_some,ZtM _ h.commits,Option.bind_some]
 unfold Yx
 cases Vi s.slots<;>cases (s.pending.all KC&&KL ltp s.pending)<;>cases (s.marks.all Y3&&KL ltm s.marks)<;>cases (s.answers.all V0&&KL lta s.answers)<;>cases (s.entries.all VZ&&KL lte s.entries)<;>cases s.commits.all Zbg<;>rfl
theorem s59 (s:JW) (h:s.Fits):g59 (s.slots.map Zg) (s.pending.map Zv) (s.marks.map Zh) (s.answers.map Zx) (s.entries.map Ze) (Zb s.commits)=some (Yx s):=by
 have e:s.commits.all (ZiY true)=s.commits.all Zbg:=by congr
 rw [ZuV,ZDZ _ h.slots h.slot,Option.bind_some,s55 _ _ h.commits,Option.bind_some,ZBW _ h.pending h.req,ZBc _ h.marks,ZBn _ h.answers,ZzS _ h.entries h.entry,e]
 unfold Yx
 cases Vi s.slots<;>cases (s.pending.all KC&&KL ltp s.pending)<;>cases (s.marks.all Y3&&KL ltm s.marks)<;>cases (s.answers.all V0&&KL lta s.answers)<;>cases (s.entries.all VZ&&KL lte s.entries)<;>cases s.commits.all Zbg<;>rfl
end Go.Proofs.YtjldbnbdcmfbmaaGreat
end

section
namespace Go.Proofs.YtjldbnbdcmfbmaaGreat
open Go Go.AM
set_option linter.unusedSimpArgs false
set_option linter.unusedVariables false
set_option maxRecDepth 100000
theorem Zfx {γ:Type} {F:Nat→Int→Int→Option γ} {n:Nat} (hn:n < 2^63)
  (step:∀ (k:Nat) (acc:Int) (i:Nat),i < n→∃ acc',F (k+1) acc (i:Int)=F k acc' ((i+1:Nat):Int))
  (last:∀ (k:Nat) (acc:Int) (i:Nat),n≤i→∃ r,F (k+1) acc (i:Int)=some r) (acc:Int):∃ r,F Zr acc 0=some r:=by
 have key:∀ (j:Nat) (acc:Int) (i fuel:Nat),n≤i+j→j < fuel→∃ r,F fuel acc (i:Int)=some r:=by
  intro j
  induction j with
  | zero =>
   intro acc i fuel h hf
   obtain ⟨f,rfl⟩:∃ f,fuel=f+1:=⟨fuel-1,by omega⟩
   exact last f acc i (by omega)
  | succ j ih =>
   intro acc i fuel h hf
   obtain ⟨f,rfl⟩:∃ f,fuel=f+1:=⟨fuel-1,by omega⟩
   by_cases hi:i < n
   ·obtain ⟨acc',h'⟩:=step f acc i hi
    rw [h']
    exact ih acc' (i+1) f (by omega) (by omega)
   ·exact last f acc i (by omega)
 exact key n acc 0 Zr (by omega) (by have:=J5 hn;omega)
theorem ZCX {n:Nat} (h:n≤maxLen):n < 2^63:=by
 have:maxLen+1=2^63:=by decide
 omega
def Zkp (s:JW):List AV:=[.slice false 15 (s.slots.map Zg),.slice false 28 (s.pending.map Zv),.slice false 4 (s.marks.map Zh),.slice false 2 (s.answers.map Zx),.slice false 13 (s.entries.map Ze),.slice false 3 (Zb s.commits)]
end Go.Proofs.YtjldbnbdcmfbmaaGreat
end

section
namespace Go.Proofs.YtjldbnbdcmfbmaaGreat
open Go Go.AM
set_option linter.unusedSimpArgs false
set_option linter.unusedVariables false
set_option maxRecDepth 100000
theorem ZB (l:List Int):(Za l).length=l.length:=by simp [Za]
theorem Zh0 (l:List Int) (n:Nat):(Za l).take n=Za (l.take n):=by simp [Za,List.map_take]
def JA (z:Int):Bool:=decide (0≤z∧z≤1073741824)
def K1 (m:ZeG):Bool:=Z5 m.region&&Zs m.to
theorem s33 (z:Int):g33 z=some (JA z):=by
 rw [Zw8]
 repeat' split
 all_goals (refine congrArg some ?_;rw [Zk];simp only [JA,CQ] at *; omega)
theorem s50 (z:Int):g50 z=some (JA z):=by
 rw [ZxJ]
 repeat' split
 all_goals (refine congrArg some ?_;rw [Zk];simp only [JA,CQ] at *; omega)
theorem s94 (x:Yz) (hx:x.path.length < 2^63):g94 x.id.core x.id.op x.id.part (Zb x.path) x.cap.kind x.cap.base x.cap.bits x.cap.rights x.cap.width x.cap.level x.cap.device=some (!ZD x):=by
 rw [ZxY,s95 x hx,Option.bind_some]
theorem Zsc (l:List Yz) (hl:l.length < 2^63) (hp:∀ x∈l,x.path.length < 2^63):∃ r,ZiQ (l.map ZY)=some r∧cop .geq r 0 = !(l.all ZD):=by
 rw [ZlG,List.length_map]
 have:=YW (F:=fun k i=>Vu k (l.map ZY) (l.length:Int) i) (n:=l.length) (fun i=>!atB ZD l i) hl
  (fun k i hi=>by
   show Vu (k+1) _ _ _=_
   rw [ZbL,if_pos (ZQ hi)]
   refine (Yv hi _).trans ?_
   simp only [Zhg,d2,d4,d8,d16]
   rw [s94 l[i] (hp _ (List.getElem_mem hi)),Option.bind_some,ZN hi hl,Ji _ hi])
  (fun k i hi=>by show Vu (k+1) _ _ _=_;rw [ZbL,if_neg (ZT hi)])
 rw [Wp] at this
 exact this
theorem Zu0 (l:List Yz) (hl:l.length < 2^63) (hp:∀ x∈l,x.path.length < 2^63):ZeQ (l.map ZY)=some (!(l.all ZD)):=by
 obtain ⟨r,h1,h2⟩:=Zsc l hl hp
 rw [Zor,h1,Option.bind_some,h2]
theorem s98 (x:Id):g98 x.core x.op x.part=some (!Vw x):=by
 rw [Zvj,s99,Option.bind_some,Kw]
theorem ZtU (l:List Id) (hl:l.length < 2^63):∃ r,ZiT (Zb l)=some r∧cop .geq r 0 = !(l.all Vw):=by
 rw [Zlw,ZJ]
 have:=YW (F:=fun k i=>Vo k (Zb l) (l.length:Int) i) (n:=l.length) (fun i=>!atB Vw l i) hl
  (fun k i hi=>by
   show Vo (k+1) _ _ _=_
   rw [ZbT,if_pos (ZQ hi)]
   refine (Vd hi _).trans ?_
   dsimp only
   rw [s98 l[i],Option.bind_some,ZN hi hl,Ji _ hi])
  (fun k i hi=>by show Vo (k+1) _ _ _=_;rw [ZbT,if_neg (ZT hi)])
 rw [Wp] at this
 exact this
theorem Zw3 (l:List Id) (hl:l.length < 2^63):Zkg (Zb l)=some (!(l.all Vw)):=by
 obtain ⟨r,h1,h2⟩:=ZtU l hl
 rw [Zog,h1,Option.bind_some,h2]
theorem ZDY (x:Int):ZzU x=some (!Zs x):=by
 rw [Zst,s34,Option.bind_some]
theorem ZqV (l:List Int) (hl:l.length < 2^63):∃ r,ZfK (Za l)=some r∧cop .geq r 0 = !(l.all Zs):=by
 rw [Zjp,ZB]
 have:=YW (F:=fun k i=>KT k (Za l) (l.length:Int) i) (n:=l.length) (fun i=>!atB Zs l i) hl
  (fun k i hi=>by
   show KT (k+1) _ _ _=_
   rw [Za1,if_pos (ZQ hi)]
   refine (ZG hi _).trans ?_
   skip
   rw [ZDY l[i],Option.bind_some,ZN hi hl,Ji _ hi])
  (fun k i hi=>by show KT (k+1) _ _ _=_;rw [Za1,if_neg (ZT hi)])
 rw [Wp] at this
 exact this
theorem ZpD (l:List Int) (hl:l.length < 2^63):Zcb (Za l)=some (!(l.all Zs)):=by
 obtain ⟨r,h1,h2⟩:=ZqV l hl
 rw [Zjm,h1,Option.bind_some,h2]
theorem ZEg (x:Int):ZCd x=some (!Zs x):=by
 rw [Zul,s34,Option.bind_some]
theorem ZoW (l:List Int) (hl:l.length < 2^63):∃ r,Zfj (Za l)=some r∧cop .geq r 0 = !(l.all Zs):=by
 rw [ZiB,ZB]
 have:=YW (F:=fun k i=>KM k (Za l) (l.length:Int) i) (n:=l.length) (fun i=>!atB Zs l i) hl
  (fun k i hi=>by
   show KM (k+1) _ _ _=_
   rw [Zaz,if_pos (ZQ hi)]
   refine (ZG hi _).trans ?_
   skip
   rw [ZEg l[i],Option.bind_some,ZN hi hl,Ji _ hi])
  (fun k i hi=>by show KM (k+1) _ _ _=_;rw [Zaz,if_neg (ZT hi)])
 rw [Wp] at this
 exact this
theorem Zpc (l:List Int) (hl:l.length < 2^63):Zf6 (Za l)=some (!(l.all Zs)):=by
 obtain ⟨r,h1,h2⟩:=ZoW l hl
 rw [Zij,h1,Option.bind_some,h2]
theorem ZD4 (x:ZeG):ZBt x.region x.to=some (!K1 x):=by
 rw [ZtE,s89,s34,Option.bind_some,Option.bind_some]
 unfold K1
 cases Z5 x.region<;>rfl
theorem Zqv (l:List ZeG) (hl:l.length < 2^63):∃ r,Zfz (l.map ZU)=some r∧cop .geq r 0 = !(l.all K1):=by
 rw [Zi7,List.length_map]
 have:=YW (F:=fun k i=>KD k (l.map ZU) (l.length:Int) i) (n:=l.length) (fun i=>!atB K1 l i) hl
  (fun k i hi=>by
   show KD (k+1) _ _ _=_
   rw [Zam,if_pos (ZQ hi)]
   refine (Yh hi _).trans ?_
   dsimp only
   rw [ZD4 l[i],Option.bind_some,ZN hi hl,Ji _ hi])
  (fun k i hi=>by show KD (k+1) _ _ _=_;rw [Zam,if_neg (ZT hi)])
 rw [Wp] at this
 exact this
theorem ZoV (l:List ZeG) (hl:l.length < 2^63):Zcn (l.map ZU)=some (!(l.all K1)):=by
 obtain ⟨r,h1,h2⟩:=Zqv l hl
 rw [Zim,h1,Option.bind_some,h2]
def ltI (a b:Int):Bool:=decide (a < b)
def Zdm (l:List Int):Bool:=l.all Zs&&KL ltI l
theorem s56 (l:List Int) (hl:l.length < 2^63):g56 (Za l)=some (Zdm l):=by
 rw [Zyb]
 have:=ZW (F:=fun k i=>ZgB k (Za l) i) (n:=l.length) (fin:=some true) (bad:=some false) (fun i=>atB Zs l i&&Vy ltI l i) hl 0 (by omega)
  (fun k i _ hi=>by
   show ZgB (k+1) (Za l) _=_
   rw [ZjA,ZB,if_pos (ZQ hi)]
   refine (ZG hi _).trans ?_
   rw [ZN hi hl,Ji _ hi]
   generalize ZgB k (Za l) ((i+1:Nat):Int)=X
   cases i with
   | zero =>
    simp only [s51,Option.bind_some,ZnZ,Bool.false_eq_true,if_false,Vy,Bool.and_true]
    cases Zs l[0]<;>rfl
   | succ j =>
    simp only [s51,Option.bind_some,ZoJ,if_true,Zd4 (show j+1 < 2^63 by omega),ZG (show j < l.length by omega),ZG hi,Kv _ hi]
    generalize l[j+1]=t
    generalize l[j]=u
    unfold ltI
    repeat' split
    all_goals (simp only [CQ] at * <;> grind))
  (fun k i hi=>by show ZgB (k+1) (Za l) _=_;rw [ZjA,ZB,if_neg (ZT hi)])
 rw [Nat.sub_zero,ZcJ] at this
 refine Eq.trans this ?_
 unfold Zdm
 cases (l.all Zs&&KL ltI l)<;>rfl
theorem s60 (l:List ZeG) (hl:l.length < 2^63):g60 (l.map ZU)=some (l.all K1&&decide (l.length≤16)):=by
 rw [Zu9]
 have:=ZW (F:=fun k i=>Ziv k (l.map ZU) i) (n:=l.length) (fin:=some (cop .leq (l.length:Int) 16)) (bad:=some false) (atB K1 l) hl 0 (by omega)
  (fun k i _ hi=>by
   show Ziv (k+1) (l.map ZU) _=_
   rw [Zle,List.length_map,if_pos (ZQ hi)]
   refine (Yh hi _).trans ?_
   rw [ZN hi hl,Ji _ hi]
   generalize Ziv k (l.map ZU) ((i+1:Nat):Int)=X
   simp only [s62,s51,Option.bind_some,Yh hi]
   generalize l[i]=t
   unfold K1
   cases Z5 t.region<;>cases Zs t.to<;>rfl)
  (fun k i hi=>by show Ziv (k+1) (l.map ZU) _=_;rw [Zle,List.length_map,if_neg (ZT hi)])
 rw [Nat.sub_zero,ZbO] at this
 refine Eq.trans this ?_
 have e:cop .leq (l.length:Int) 16=decide (l.length≤16):=by rw [Zk];simp only [CQ];omega
 rw [e]
 cases l.all K1<;>rfl
theorem ZDM (l:List Int) (hl:l.length < 2^63) (a:Int):∃ r,ZBf (Za l) a=some r∧cop .geq r 0=l.any (fun x=>decide (a=x)):=by
 rw [ZtT,ZB]
 have:=YW (F:=fun k i=>Zey k (Za l) a (l.length:Int) i) (n:=l.length) (fun i=>!atB (fun x=>!decide (a=x)) l i) hl
  (fun k i hi=>by
   show Zey (k+1) _ _ _ _=_
   rw [Zgy,if_pos (ZQ hi)]
   refine (ZG hi _).trans ?_
   rw [ZN hi hl,Ji _ hi,Bool.not_not]
   rfl)
  (fun k i hi=>by show Zey (k+1) _ _ _ _=_;rw [Zgy,if_neg (ZT hi)])
 rw [Wp] at this
 have e:(!(l.all fun x=>!decide (a=x)))=l.any (fun x=>decide (a=x)):=by
  rw [List.any_eq_not_all_not]
 rw [e] at this
 exact this
theorem ZE8 (l:List Int) (hl:l.length < 2^63) (a:Int):ZzA (Za l) a=some (l.any (fun x=>decide (a=x))):=by
 obtain ⟨r,h1,h2⟩:=ZDM l hl a
 rw [Ztm,h1,Option.bind_some,h2]
theorem s79 (l:List Int) (hl:l.length < 2^63) (a:Int):g79 (Za l) a=some (l.any (fun x=>decide (a=x))):=by
 rw [Zvf]
 have:=ZW (F:=fun k i=>ZiR k (Za l) a i) (n:=l.length) (fin:=some false) (bad:=some true) (atB (fun x=>!decide (a=x)) l) hl 0 (by omega)
  (fun k i _ hi=>by
   show ZiR (k+1) (Za l) _ _=_
   rw [ZjT,ZB,if_pos (ZQ hi)]
   refine (ZG hi _).trans ?_
   rw [ZN hi hl,Ji _ hi]
   generalize ZiR k (Za l) a ((i+1:Nat):Int)=X
   generalize l[i]=t
   by_cases h:a=t
   ·rw [if_pos (by simp only [CQ];exact h.symm),if_neg (by simp [h])]
   ·rw [if_neg (by simp only [CQ];exact fun he=>h he.symm),if_pos (by simp [h])])
  (fun k i hi=>by show ZiR (k+1) (Za l) _ _=_;rw [ZjT,ZB,if_neg (ZT hi)])
 rw [Nat.sub_zero,ZbO] at this
 refine Eq.trans this ?_
 rw [List.any_eq_not_all_not]
 cases l.all (fun x=>!decide (a=x))<;>rfl
def ZdT (l:List Int) (i:Nat):Bool:=match l[i]? with | some x=>!((l.take i).any (fun y=>decide (x=y))) | none=>true
def K2 (v:V7):Bool:=JA v.number&&decide (v.members.length≤32)&&decide (v.owners.length≤16)&&(List.range' 0 v.members.length).all (fun i=>atB Zs v.members i&&ZdT v.members i)&&v.owners.all Zs
theorem Zka {l:List Int} {i:Nat} (hi:i < l.length):ZdT l i = !((l.take i).any (fun y=>decide (l[i]=y))):=by
 unfold ZdT;rw [List.getElem?_eq_getElem hi]
theorem ZBj (v:V7) (h1:v.members.length < 2^63) (h2:v.owners.length < 2^63):ZuU v.number (Za v.members) (Za v.owners)=some (K2 v):=by
 rw [Zt9,ZB,ZB,s33,Option.bind_some]
 have:=ZW (F:=fun k i=>Zdg k v.number (Za v.members) (Za v.owners) (Za v.members) (v.members.length:Int) i) (n:=v.members.length) (fin:=some (v.owners.all Zs)) (bad:=some false) (fun i=>atB Zs v.members i&&ZdT v.members i) h1 0 (by omega)
  (fun k i _ hi=>by
   show Zdg (k+1) _ _ _ _ _ _=_
   rw [ZhC,if_pos (ZQ hi)]
   refine (ZG hi _).trans ?_
   rw [s34,Option.bind_some,Zj (by omega),Zj (by rw [ZB];omega),Int.toNat_natCast,Zh0,ZE8 _ (by rw [List.length_take];omega),Option.bind_some,ZN hi h1,Ji _ hi,Zka hi]
   cases Zs v.members[i]<;>cases (v.members.take i).any (fun y=>decide (v.members[i]=y))<;>rfl)
  (fun k i hi=>by
   show Zdg (k+1) _ _ _ _ _ _=_
   rw [ZhC,if_neg (ZT hi),Zpc _ h2,Option.bind_some,Bool.not_not])
 rw [Nat.sub_zero] at this
 have this:Zdg Zr v.number (Za v.members) (Za v.owners) (Za v.members) (v.members.length:Int) 0=_:=this
 rw [this]
 unfold K2
 by_cases a1:v.members.length≤32
 ·by_cases a2:v.owners.length≤16
  ·rw [if_neg (show ¬ (cop .gtr (v.members.length:Int) 32)=true by simp only [CQ];omega),if_neg (show ¬ (cop .gtr (v.owners.length:Int) 16)=true by simp only [CQ];omega),decide_eq_true a1,decide_eq_true a2]
   cases JA v.number<;>cases (List.range' 0 v.members.length).all (fun i=>atB Zs v.members i&&ZdT v.members i)<;>rfl
  ·rw [if_neg (show ¬ (cop .gtr (v.members.length:Int) 32)=true by simp only [CQ];omega),if_pos (show (cop .gtr (v.owners.length:Int) 16)=true by simp only [CQ];omega),decide_eq_false a2]
   cases JA v.number<;>simp
 ·rw [if_pos (show (cop .gtr (v.members.length:Int) 32)=true by simp only [CQ];omega),decide_eq_false a1]
  cases JA v.number<;>simp
theorem s58 (v:V7) (h1:v.members.length < 2^63) (h2:v.owners.length < 2^63):g58 v.number (Za v.members) (Za v.owners)=some (K2 v):=by
 rw [Zx2,ZB,ZB,s50,Option.bind_some]
 have l0:=ZW (F:=fun k i=>Zi9 k v.number (Za v.members) (Za v.owners) i) (n:=v.owners.length) (fin:=some true) (bad:=some false) (atB Zs v.owners) h2 0 (by omega)
  (fun k i _ hi=>by
   show Zi9 (k+1) _ _ _ _=_
   rw [Zk0,ZB,if_pos (ZQ hi)]
   refine (ZG hi _).trans ?_
   rw [s51,Option.bind_some,ZN hi h2,Ji _ hi]
   cases Zs v.owners[i]<;>rfl)
  (fun k i hi=>by
   show Zi9 (k+1) _ _ _ _=_
   rw [Zk0,ZB,if_neg (ZT hi)])
 rw [Nat.sub_zero,ZbO] at l0
 have l0:Zi9 Zr v.number (Za v.members) (Za v.owners) 0=_:=l0
 have:=ZW (F:=fun k i=>ZiU k v.number (Za v.members) (Za v.owners) i) (n:=v.members.length) (fin:=some (v.owners.all Zs)) (bad:=some false) (fun i=>atB Zs v.members i&&ZdT v.members i) h1 0 (by omega)
  (fun k i _ hi=>by
   show ZiU (k+1) _ _ _ _=_
   rw [ZkP,ZB,if_pos (ZQ hi)]
   refine (ZG hi _).trans ?_
   rw [s51,Option.bind_some,Zj (by omega),Zj (by omega),Int.toNat_natCast,Zh0,ZN hi h1,Ji _ hi,Zka hi]
   simp only [ZG hi]
   rw [s79 _ (by rw [List.length_take];omega),Option.bind_some]
   cases Zs v.members[i]<;>cases (v.members.take i).any (fun y=>decide (v.members[i]=y))<;>rfl)
  (fun k i hi=>by
   show ZiU (k+1) _ _ _ _=_
   rw [ZkP,ZB,if_neg (ZT hi),l0]
   cases v.owners.all Zs<;>rfl)
 rw [Nat.sub_zero] at this
 have this:ZiU Zr v.number (Za v.members) (Za v.owners) 0=_:=this
 rw [this]
 unfold K2
 by_cases a1:v.members.length≤32
 ·by_cases a2:v.owners.length≤16
  ·rw [if_neg (show ¬ (cop .gtr (v.members.length:Int) 32)=true by simp only [CQ];omega),if_neg (show ¬ (cop .gtr (v.owners.length:Int) 16)=true by simp only [CQ];omega),decide_eq_true a1,decide_eq_true a2]
   cases JA v.number<;>cases (List.range' 0 v.members.length).all (fun i=>atB Zs v.members i&&ZdT v.members i)<;>rfl
  ·rw [if_neg (show ¬ (cop .gtr (v.members.length:Int) 32)=true by simp only [CQ];omega),if_pos (show (cop .gtr (v.owners.length:Int) 16)=true by simp only [CQ];omega),decide_eq_false a2]
   cases JA v.number<;>simp
 ·rw [if_pos (show (cop .gtr (v.members.length:Int) 32)=true by simp only [CQ];omega),decide_eq_false a1]
  cases JA v.number<;>simp
structure V7.Fits (v:V7):Prop where
 members:v.members.length < 2^63
 owners:v.owners.length < 2^63
structure JF.Fits (r:JF):Prop where
 view:r.view.Fits
 state:r.state.Fits
 next:r.next.Fits
 proposal:r.proposal.Fits
def Zfh (r:JF):Bool:=Zs r.core&&K2 r.view&&Yx r.state&&K2 r.next&&Yx r.proposal
theorem ZDK (r:JF) (h:r.Fits):ZCC r.core r.view.number (Za r.view.members) (Za r.view.owners) (r.state.slots.map Zg) (r.state.pending.map Zv) (r.state.marks.map Zh) (r.state.answers.map Zx) (r.state.entries.map Ze) (Zb r.state.commits) r.ready r.next.number (Za r.next.members) (Za r.next.owners) (r.proposal.slots.map Zg) (r.proposal.pending.map Zv) (r.proposal.marks.map Zh) (r.proposal.answers.map Zx) (r.proposal.entries.map Ze) (Zb r.proposal.commits)=some (Zfh r):=by
 rw [ZrE,s34,Option.bind_some,ZBj _ h.view.members h.view.owners,Option.bind_some,ZAD _ h.state,Option.bind_some,ZBj _ h.next.members h.next.owners,Option.bind_some,ZAD _ h.proposal,Option.bind_some]
 unfold Zfh
 cases Zs r.core<;>cases K2 r.view<;>cases Yx r.state<;>cases K2 r.next<;>cases Yx r.proposal<;>rfl
theorem s57 (r:JF) (h:r.Fits):g57 r.core r.view.number (Za r.view.members) (Za r.view.owners) (r.state.slots.map Zg) (r.state.pending.map Zv) (r.state.marks.map Zh) (r.state.answers.map Zx) (r.state.entries.map Ze) (Zb r.state.commits) r.ready r.next.number (Za r.next.members) (Za r.next.owners) (r.proposal.slots.map Zg) (r.proposal.pending.map Zv) (r.proposal.marks.map Zh) (r.proposal.answers.map Zx) (r.proposal.entries.map Ze) (Zb r.proposal.commits)=some (Zfh r):=by
 rw [ZxR,s51,Option.bind_some,s58 _ h.view.members h.view.owners,Option.bind_some,s59 _ h.state,Option.bind_some,s58 _ h.next.members h.next.owners,Option.bind_some,s59 _ h.proposal,Option.bind_some]
 unfold Zfh
 cases Zs r.core<;>cases K2 r.view<;>cases Yx r.state<;>cases K2 r.next<;>cases Yx r.proposal<;>rfl
end Go.Proofs.YtjldbnbdcmfbmaaGreat
end

section
namespace Go.Proofs.YtjldbnbdcmfbmaaGreat
open Go Go.AM
set_option linter.unusedSimpArgs false
set_option linter.unusedVariables false
set_option maxRecDepth 100000
structure Msg where
 kind:Int
 view:Int
 frm:Int
 to:Int
 round:Int
 region:Int
 slot:Int
 op:Id
 err:Int
 settled:Bool
 req:Req
 ids:List Id
 nodes:List Yz
 cores:List Int
 moves:List ZeG
 base:Int
 next:V7
 state:JW
 report:JF
structure Msg.Fits (m:Msg):Prop where
 req:m.req.src.path.length < 2^63
 ids:m.ids.length < 2^63
 nodes:m.nodes.length < 2^63
 node:∀ x∈m.nodes,x.path.length < 2^63
 cores:m.cores.length < 2^63
 moves:m.moves.length < 2^63
 next:m.next.Fits
 state:m.state.Fits
 report:m.report.Fits
def Zpo (m:Msg):Qt5:=(m.kind,m.view,m.frm,m.to,m.round,m.region,m.slot,m.op.core,m.op.op,m.op.part,m.err,m.settled,m.req.id.core,m.req.id.op,m.req.id.part,m.req.call.kind,m.req.call.slot,m.req.call.dest,m.req.call.core,m.req.call.mask,m.req.call.object,m.req.call.bits,m.req.call.level,m.req.call.offset,m.req.call.count,m.req.call.index,m.req.call.addr,m.req.region,m.req.width,m.req.src.id.core,m.req.src.id.op,m.req.src.id.part,(Zb m.req.src.path),m.req.src.cap.kind,m.req.src.cap.base,m.req.src.cap.bits,m.req.src.cap.rights,m.req.src.cap.width,m.req.src.cap.level,m.req.src.cap.device,(Zb m.ids),(m.nodes.map ZY),(Za m.cores),(m.moves.map ZU),m.base,m.next.number,(Za m.next.members),(Za m.next.owners),(m.state.slots.map Zg),(m.state.pending.map Zv),(m.state.marks.map Zh),(m.state.answers.map Zx),(m.state.entries.map Ze),(Zb m.state.commits),m.report.core,m.report.view.number,(Za m.report.view.members),(Za m.report.view.owners),(m.report.state.slots.map Zg),(m.report.state.pending.map Zv),(m.report.state.marks.map Zh),(m.report.state.answers.map Zx),(m.report.state.entries.map Ze),(Zb m.report.state.commits),m.report.ready,m.report.next.number,(Za m.report.next.members),(Za m.report.next.owners),(m.report.proposal.slots.map Zg),(m.report.proposal.pending.map Zv),(m.report.proposal.marks.map Zh),(m.report.proposal.answers.map Zx),(m.report.proposal.entries.map Ze),(Zb m.report.proposal.commits))
def Zrq:Call:=⟨0,0,0,0,0,0,0,0,0,0,0,0⟩
def Ja:Req:=⟨zid,Zrq,0,0,Jo⟩
def ZH:V7:=⟨0,[],[]⟩
def Zl:JW:=⟨[],[],[],[],[],[]⟩
def Zn:JF:=⟨0,ZH,Zl,false,ZH,Zl⟩
def clr (m:Msg):Nat→Msg
 | 0 => { m with region := 0 }
 | 1 => { m with req := Ja }
 | 2 => { m with op := zid }
 | 3 => { m with err := 0 }
 | 4 => { m with settled := false }
 | 5 => { m with nodes := [] }
 | 6 => { m with slot := 0 }
 | 7 => { m with ids := [] }
 | 8 => { m with round := 0 }
 | 9 => { m with cores := [] }
 | 10 => { m with report := Zn }
 | 11 => { m with base := 0 }
 | 12 => { m with next := ZH }
 | 13 => { m with state := Zl }
 | 14 => { m with moves := [] }
 | _ => m
theorem s36 (m:Msg):∀ f:Nat,f < 15→g36 m.kind m.view m.frm m.to m.round m.region m.slot m.op.core m.op.op m.op.part m.err m.settled m.req.id.core m.req.id.op m.req.id.part m.req.call.kind m.req.call.slot m.req.call.dest m.req.call.core m.req.call.mask m.req.call.object m.req.call.bits m.req.call.level m.req.call.offset m.req.call.count m.req.call.index m.req.call.addr m.req.region m.req.width m.req.src.id.core m.req.src.id.op m.req.src.id.part (Zb m.req.src.path) m.req.src.cap.kind m.req.src.cap.base m.req.src.cap.bits m.req.src.cap.rights m.req.src.cap.width m.req.src.cap.level m.req.src.cap.device (Zb m.ids) (m.nodes.map ZY) (Za m.cores) (m.moves.map ZU) m.base m.next.number (Za m.next.members) (Za m.next.owners) (m.state.slots.map Zg) (m.state.pending.map Zv) (m.state.marks.map Zh) (m.state.answers.map Zx) (m.state.entries.map Ze) (Zb m.state.commits) m.report.core m.report.view.number (Za m.report.view.members) (Za m.report.view.owners) (m.report.state.slots.map Zg) (m.report.state.pending.map Zv) (m.report.state.marks.map Zh) (m.report.state.answers.map Zx) (m.report.state.entries.map Ze) (Zb m.report.state.commits) m.report.ready m.report.next.number (Za m.report.next.members) (Za m.report.next.owners) (m.report.proposal.slots.map Zg) (m.report.proposal.pending.map Zv) (m.report.proposal.marks.map Zh) (m.report.proposal.answers.map Zx) (m.report.proposal.entries.map Ze) (Zb m.report.proposal.commits) (f:Int)=some (Zpo (clr m f))
 | 0, _ => by rw [K0]; rfl
 | 1, _ => by rw [K0]; rfl
 | 2, _ => by rw [K0]; rfl
 | 3, _ => by rw [K0]; rfl
 | 4, _ => by rw [K0]; rfl
 | 5, _ => by rw [K0]; rfl
 | 6, _ => by rw [K0]; rfl
 | 7, _ => by rw [K0]; rfl
 | 8, _ => by rw [K0]; rfl
 | 9, _ => by rw [K0]; rfl
 | 10, _ => by rw [K0]; rfl
 | 11, _ => by rw [K0]; rfl
 | 12, _ => by rw [K0]; rfl
 | 13, _ => by rw [K0]; rfl
 | 14, _ => by rw [K0]; rfl
theorem ZEE (m:Msg) {j:Nat} (hj:j+1 < m.cores.length):ZAo (j:Int) ((j+1:Nat):Int) m.kind m.view m.frm m.to m.round m.region m.slot m.op.core m.op.op m.op.part m.err m.settled m.req.id.core m.req.id.op m.req.id.part m.req.call.kind m.req.call.slot m.req.call.dest m.req.call.core m.req.call.mask m.req.call.object m.req.call.bits m.req.call.level m.req.call.offset m.req.call.count m.req.call.index m.req.call.addr m.req.region m.req.width m.req.src.id.core m.req.src.id.op m.req.src.id.part (Zb m.req.src.path) m.req.src.cap.kind m.req.src.cap.base m.req.src.cap.bits m.req.src.cap.rights m.req.src.cap.width m.req.src.cap.level m.req.src.cap.device (Zb m.ids) (m.nodes.map ZY) (Za m.cores) (m.moves.map ZU) m.base m.next.number (Za m.next.members) (Za m.next.owners) (m.state.slots.map Zg) (m.state.pending.map Zv) (m.state.marks.map Zh) (m.state.answers.map Zx) (m.state.entries.map Ze) (Zb m.state.commits) m.report.core m.report.view.number (Za m.report.view.members) (Za m.report.view.owners) (m.report.state.slots.map Zg) (m.report.state.pending.map Zv) (m.report.state.marks.map Zh) (m.report.state.answers.map Zx) (m.report.state.entries.map Ze) (Zb m.report.state.commits) m.report.ready m.report.next.number (Za m.report.next.members) (Za m.report.next.owners) (m.report.proposal.slots.map Zg) (m.report.proposal.pending.map Zv) (m.report.proposal.marks.map Zh) (m.report.proposal.answers.map Zx) (m.report.proposal.entries.map Ze) (Zb m.report.proposal.commits)=some (ltI m.cores[j] m.cores[j+1],Zpo m):=by
 rw [Zr8]
 refine (ZG (show j < m.cores.length by omega) _).trans ?_
 refine (ZG hj _).trans ?_
 rfl
theorem Zqa (m:Msg) (h:m.Fits):Zcs (m.cores.length:Int) m.kind m.view m.frm m.to m.round m.region m.slot m.op.core m.op.op m.op.part m.err m.settled m.req.id.core m.req.id.op m.req.id.part m.req.call.kind m.req.call.slot m.req.call.dest m.req.call.core m.req.call.mask m.req.call.object m.req.call.bits m.req.call.level m.req.call.offset m.req.call.count m.req.call.index m.req.call.addr m.req.region m.req.width m.req.src.id.core m.req.src.id.op m.req.src.id.part (Zb m.req.src.path) m.req.src.cap.kind m.req.src.cap.base m.req.src.cap.bits m.req.src.cap.rights m.req.src.cap.width m.req.src.cap.level m.req.src.cap.device (Zb m.ids) (m.nodes.map ZY) (Za m.cores) (m.moves.map ZU) m.base m.next.number (Za m.next.members) (Za m.next.owners) (m.state.slots.map Zg) (m.state.pending.map Zv) (m.state.marks.map Zh) (m.state.answers.map Zx) (m.state.entries.map Ze) (Zb m.state.commits) m.report.core m.report.view.number (Za m.report.view.members) (Za m.report.view.owners) (m.report.state.slots.map Zg) (m.report.state.pending.map Zv) (m.report.state.marks.map Zh) (m.report.state.answers.map Zx) (m.report.state.entries.map Ze) (Zb m.report.state.commits) m.report.ready m.report.next.number (Za m.report.next.members) (Za m.report.next.owners) (m.report.proposal.slots.map Zg) (m.report.proposal.pending.map Zv) (m.report.proposal.marks.map Zh) (m.report.proposal.answers.map Zx) (m.report.proposal.entries.map Ze) (Zb m.report.proposal.commits)=some (KL ltI m.cores,Zpo m):=by
 rw [ZiH]
 have:=ZW (F:=fun k i=>Wt k (m.cores.length:Int) i m.kind m.view m.frm m.to m.round m.region m.slot m.op.core m.op.op m.op.part m.err m.settled m.req.id.core m.req.id.op m.req.id.part m.req.call.kind m.req.call.slot m.req.call.dest m.req.call.core m.req.call.mask m.req.call.object m.req.call.bits m.req.call.level m.req.call.offset m.req.call.count m.req.call.index m.req.call.addr m.req.region m.req.width m.req.src.id.core m.req.src.id.op m.req.src.id.part (Zb m.req.src.path) m.req.src.cap.kind m.req.src.cap.base m.req.src.cap.bits m.req.src.cap.rights m.req.src.cap.width m.req.src.cap.level m.req.src.cap.device (Zb m.ids) (m.nodes.map ZY) (Za m.cores) (m.moves.map ZU) m.base m.next.number (Za m.next.members) (Za m.next.owners) (m.state.slots.map Zg) (m.state.pending.map Zv) (m.state.marks.map Zh) (m.state.answers.map Zx) (m.state.entries.map Ze) (Zb m.state.commits) m.report.core m.report.view.number (Za m.report.view.members) (Za m.report.view.owners) (m.report.state.slots.map Zg) (m.report.state.pending.map Zv) (m.report.state.marks.map Zh) (m.report.state.answers.map Zx) (m.report.state.entries.map Ze) (Zb m.report.state.commits) m.report.ready m.report.next.number (Za m.report.next.members) (Za m.report.next.owners) (m.report.proposal.slots.map Zg) (m.report.proposal.pending.map Zv) (m.report.proposal.marks.map Zh) (m.report.proposal.answers.map Zx) (m.report.proposal.entries.map Ze) (Zb m.report.proposal.commits)) (n:=m.cores.length) (fin:=some (true,Zpo m)) (bad:=some (false,Zpo m)) (Vy ltI m.cores) h.cores 1 (by omega)
  (fun k i h1 hi=>by
   obtain ⟨j,rfl⟩:∃ j,i=j+1:=⟨i-1,by omega⟩
   refine (Zbd ..).trans ?_
   rw [if_pos (ZQ hi),Zd4 (by have:=h.cores;omega),ZEE m hi,Option.bind_some,ZN hi h.cores,Kv _ hi]
   cases ltI m.cores[j] m.cores[j+1]<;>rfl)
  (fun k i hi=>by refine (Zbd ..).trans ?_;rw [if_neg (ZT hi)];rfl)
 rw [ZwI] at this
 refine Eq.trans this ?_
 cases KL ltI m.cores<;>rfl
def Zi (m:Msg):Nat→Bool
 | 0 => Z5 m.region
 | 1 => KC m.req
 | 2 => Zbg m.op
 | 3 => Zb0 m.err
 | 5 => decide (m.nodes.length ≤ 8) && (decide (m.kind ≠ 4) || decide (m.nodes.length = 1)) && m.nodes.all ZD
 | 6 => JB m.slot
 | 7 => decide (m.ids.length ≤ 64) && m.ids.all Vw
 | 8 => JA m.round
 | 9 => Zdm m.cores
 | 10 => Zfh m.report
 | 11 => JA m.base
 | 12 => K2 m.next
 | 13 => Yx m.state
 | 14 => decide (m.moves.length ≤ 16) && m.moves.all K1
 | _ => true
theorem s35 (m:Msg) (h:m.Fits):∀ f:Nat,f < 15→g35 m.kind m.view m.frm m.to m.round m.region m.slot m.op.core m.op.op m.op.part m.err m.settled m.req.id.core m.req.id.op m.req.id.part m.req.call.kind m.req.call.slot m.req.call.dest m.req.call.core m.req.call.mask m.req.call.object m.req.call.bits m.req.call.level m.req.call.offset m.req.call.count m.req.call.index m.req.call.addr m.req.region m.req.width m.req.src.id.core m.req.src.id.op m.req.src.id.part (Zb m.req.src.path) m.req.src.cap.kind m.req.src.cap.base m.req.src.cap.bits m.req.src.cap.rights m.req.src.cap.width m.req.src.cap.level m.req.src.cap.device (Zb m.ids) (m.nodes.map ZY) (Za m.cores) (m.moves.map ZU) m.base m.next.number (Za m.next.members) (Za m.next.owners) (m.state.slots.map Zg) (m.state.pending.map Zv) (m.state.marks.map Zh) (m.state.answers.map Zx) (m.state.entries.map Ze) (Zb m.state.commits) m.report.core m.report.view.number (Za m.report.view.members) (Za m.report.view.owners) (m.report.state.slots.map Zg) (m.report.state.pending.map Zv) (m.report.state.marks.map Zh) (m.report.state.answers.map Zx) (m.report.state.entries.map Ze) (Zb m.report.state.commits) m.report.ready m.report.next.number (Za m.report.next.members) (Za m.report.next.owners) (m.report.proposal.slots.map Zg) (m.report.proposal.pending.map Zv) (m.report.proposal.marks.map Zh) (m.report.proposal.answers.map Zx) (m.report.proposal.entries.map Ze) (Zb m.report.proposal.commits) (f:Int)=some (Zi m f)
 | 0, _ => by
   refine (KY ..).trans ?_
   exact (congrArg (fun x=>Option.bind x some) (s89 _))
 | 1, _ => by
   refine (KY ..).trans ?_
   exact (congrArg (fun x=>Option.bind x some) (s90 _ h.req))
 | 2, _ => by
   refine (KY ..).trans ?_
   exact (congrArg (fun x=>Option.bind x some) (s91 _))
 | 3, _ => by
   refine (KY ..).trans ?_
   exact (congrArg (fun x=>Option.bind x some) (s92 _))
 | 4, _ => by
   refine (KY ..).trans ?_
   rfl
 | 5, _ => by
   refine (KY ..).trans ?_
   show (if (cop .gtr ((m.nodes.map ZY).length:Int) 8)=true then some false else if (cop .eql m.kind 4)=true then (if (cop .neq ((m.nodes.map ZY).length:Int) 1)=true then some false else (ZeQ (m.nodes.map ZY)).bind fun r=>some (!r)) else (ZeQ (m.nodes.map ZY)).bind fun r=>some (!r))=_
   rw [List.length_map,Zu0 _ h.nodes h.node]
   repeat' split
   all_goals (refine congrArg some ?_;rw [Zk];simp only [Zi,Bool.not_not,CQ] at * <;> grind)
 | 6, _ => by
   refine (KY ..).trans ?_
   exact (congrArg (fun x=>Option.bind x some) (s96 _))
 | 7, _ => by
   refine (KY ..).trans ?_
   show (if (cop .leq ((Zb m.ids).length:Int) 64)=true then (Zkg (Zb m.ids)).bind fun r=>some (!r) else some false)=_
   rw [ZJ,Zw3 _ h.ids]
   repeat' split
   all_goals (refine congrArg some ?_;rw [Zk];simp only [Zi,Bool.not_not,CQ] at * <;> grind)
 | 8, _ => by
   refine (KY ..).trans ?_
   exact (congrArg (fun x=>Option.bind x some) (s33 _))
 | 9, _ => by
   refine (KY ..).trans ?_
   show ((Zcb (Za m.cores)).bind fun (r:Bool)=>if (!r)=true then (Zcs ((Za m.cores).length:Int) m.kind m.view m.frm m.to m.round m.region m.slot m.op.core m.op.op m.op.part m.err m.settled m.req.id.core m.req.id.op m.req.id.part m.req.call.kind m.req.call.slot m.req.call.dest m.req.call.core m.req.call.mask m.req.call.object m.req.call.bits m.req.call.level m.req.call.offset m.req.call.count m.req.call.index m.req.call.addr m.req.region m.req.width m.req.src.id.core m.req.src.id.op m.req.src.id.part (Zb m.req.src.path) m.req.src.cap.kind m.req.src.cap.base m.req.src.cap.bits m.req.src.cap.rights m.req.src.cap.width m.req.src.cap.level m.req.src.cap.device (Zb m.ids) (m.nodes.map ZY) (Za m.cores) (m.moves.map ZU) m.base m.next.number (Za m.next.members) (Za m.next.owners) (m.state.slots.map Zg) (m.state.pending.map Zv) (m.state.marks.map Zh) (m.state.answers.map Zx) (m.state.entries.map Ze) (Zb m.state.commits) m.report.core m.report.view.number (Za m.report.view.members) (Za m.report.view.owners) (m.report.state.slots.map Zg) (m.report.state.pending.map Zv) (m.report.state.marks.map Zh) (m.report.state.answers.map Zx) (m.report.state.entries.map Ze) (Zb m.report.state.commits) m.report.ready m.report.next.number (Za m.report.next.members) (Za m.report.next.owners) (m.report.proposal.slots.map Zg) (m.report.proposal.pending.map Zv) (m.report.proposal.marks.map Zh) (m.report.proposal.answers.map Zx) (m.report.proposal.entries.map Ze) (Zb m.report.proposal.commits)).bind fun r=>some r.1 else some false)=_
   rw [ZpD _ h.cores,ZB,Zqa m h,Option.bind_some,Option.bind_some]
   show _=some (m.cores.all Zs&&KL ltI m.cores)
   cases m.cores.all Zs<;>rfl
 | 10, _ => by
   refine (KY ..).trans ?_
   exact (congrArg (fun x=>Option.bind x some) (ZDK _ h.report))
 | 11, _ => by
   refine (KY ..).trans ?_
   exact (congrArg (fun x=>Option.bind x some) (s33 _))
 | 12, _ => by
   refine (KY ..).trans ?_
   exact (congrArg (fun x=>Option.bind x some) (ZBj _ h.next.members h.next.owners))
 | 13, _ => by
   refine (KY ..).trans ?_
   exact (congrArg (fun x=>Option.bind x some) (ZAD _ h.state))
 | 14, _ => by
   refine (KY ..).trans ?_
   show (if (cop .leq ((m.moves.map ZU).length:Int) 16)=true then (Zcn (m.moves.map ZU)).bind fun r=>some (!r) else some false)=_
   rw [List.length_map,ZoV _ h.moves]
   repeat' split
   all_goals (refine congrArg some ?_;rw [Zk];simp only [Zi,Bool.not_not,CQ] at * <;> grind)
def Zrz (r:Req):Bool:=decide (r.id=zid)&&decide (r.call.kind=0∧r.call.slot=0∧r.call.dest=0∧r.call.core=0∧r.call.mask=0∧r.call.object=0∧r.call.bits=0∧r.call.level=0∧r.call.offset=0∧r.call.count=0∧r.call.index=0∧r.call.addr=0)&&decide (r.region=0)&&decide (r.width=0)&&Vk r.src Jo
def ZbX (v:V7):Bool:=decide (v.number=0)&&decide (v.members.length=0)&&decide (v.owners.length=0)
def Wb (s:JW):Bool:=decide (s.slots.length=0)&&decide (s.pending.length=0)&&decide (s.marks.length=0)&&decide (s.answers.length=0)&&decide (s.entries.length=0)&&decide (s.commits.length=0)
def Wk (r:JF):Bool:=decide (r.core=0)&&ZbX r.view&&Wb r.state&&!r.ready&&ZbX r.next&&Wb r.proposal
theorem Zml (n:Nat):cop .eql (n:Int) 0=decide (n=0):=by rw [Zk];simp only [CQ];omega
theorem ZrS (z:Int):cop .eql z 0=decide (z=0):=rfl
theorem ZE9 (r:Req) (h:r.src.path.length < 2^63):ZCq r.id.core r.id.op r.id.part r.call.kind r.call.slot r.call.dest r.call.core r.call.mask r.call.object r.call.bits r.call.level r.call.offset r.call.count r.call.index r.call.addr r.region r.width r.src.id.core r.src.id.op r.src.id.part (Zb r.src.path) r.src.cap.kind r.src.cap.base r.src.cap.bits r.src.cap.rights r.src.cap.width r.src.cap.level r.src.cap.device=some (Zrz r):=by
 rw [Zr9,Zub _ h,Option.bind_some]
 simp only [Y7,Kw]
 unfold Zrz
 repeat' split
 all_goals (refine congrArg some ?_;rw [Zk];simp only [CQ] at * <;> grind)
theorem Zzr (v:V7):Zvy v.number (Za v.members) (Za v.owners)=some (ZbX v):=by
 rw [ZsP,ZB,ZB,Zml,Zml,ZrS]
 unfold ZbX
 cases decide (v.number=0)<;>cases decide (v.members.length=0)<;>rfl
theorem ZCL (s:JW):ZvW (s.slots.map Zg) (s.pending.map Zv) (s.marks.map Zh) (s.answers.map Zx) (s.entries.map Ze) (Zb s.commits)=some (Wb s):=by
 rw [ZrG,List.length_map,List.length_map,List.length_map,List.length_map,List.length_map,ZJ,Zml,Zml,Zml,Zml,Zml,Zml]
 unfold Wb
 cases decide (s.slots.length=0)<;>cases decide (s.pending.length=0)<;>cases decide (s.marks.length=0)<;>cases decide (s.answers.length=0)<;>cases decide (s.entries.length=0)<;>rfl
theorem ZDN (r:JF):ZBg r.core r.view.number (Za r.view.members) (Za r.view.owners) (r.state.slots.map Zg) (r.state.pending.map Zv) (r.state.marks.map Zh) (r.state.answers.map Zx) (r.state.entries.map Ze) (Zb r.state.commits) r.ready r.next.number (Za r.next.members) (Za r.next.owners) (r.proposal.slots.map Zg) (r.proposal.pending.map Zv) (r.proposal.marks.map Zh) (r.proposal.answers.map Zx) (r.proposal.entries.map Ze) (Zb r.proposal.commits)=some (Wk r):=by
 rw [Zs2,Zzr,ZCL,Zzr,ZCL,ZrS,Option.bind_some,Option.bind_some,Option.bind_some,Option.bind_some]
 unfold Wk
 cases decide (r.core=0)<;>cases ZbX r.view<;>cases Wb r.state<;>cases r.ready<;>cases ZbX r.next<;>rfl
def zf (m:Msg):Nat→Bool
 | 0 => decide (m.region = 0)
 | 1 => Zrz m.req
 | 2 => decide (m.op = zid)
 | 3 => decide (m.err = 0)
 | 4 => !m.settled
 | 5 => decide (m.nodes.length = 0)
 | 6 => decide (m.slot = 0)
 | 7 => decide (m.ids.length = 0)
 | 8 => decide (m.round = 0)
 | 9 => decide (m.cores.length = 0)
 | 10 => Wk m.report
 | 11 => decide (m.base = 0)
 | 12 => ZbX m.next
 | 13 => Wb m.state
 | 14 => decide (m.moves.length = 0)
 | _ => true
def ZAK (m:Msg):Bool:=(List.range 15).all (zf m)
theorem Jq (b:Bool) {y:Bool} {x:Option Bool} (h:x=some y):(if b=true then x else some false)=some (b&&y):=by cases b<;>simp [h]
theorem s37 (m:Msg) (h:m.req.src.path.length < 2^63):g37 m.kind m.view m.frm m.to m.round m.region m.slot m.op.core m.op.op m.op.part m.err m.settled m.req.id.core m.req.id.op m.req.id.part m.req.call.kind m.req.call.slot m.req.call.dest m.req.call.core m.req.call.mask m.req.call.object m.req.call.bits m.req.call.level m.req.call.offset m.req.call.count m.req.call.index m.req.call.addr m.req.region m.req.width m.req.src.id.core m.req.src.id.op m.req.src.id.part (Zb m.req.src.path) m.req.src.cap.kind m.req.src.cap.base m.req.src.cap.bits m.req.src.cap.rights m.req.src.cap.width m.req.src.cap.level m.req.src.cap.device (Zb m.ids) (m.nodes.map ZY) (Za m.cores) (m.moves.map ZU) m.base m.next.number (Za m.next.members) (Za m.next.owners) (m.state.slots.map Zg) (m.state.pending.map Zv) (m.state.marks.map Zh) (m.state.answers.map Zx) (m.state.entries.map Ze) (Zb m.state.commits) m.report.core m.report.view.number (Za m.report.view.members) (Za m.report.view.owners) (m.report.state.slots.map Zg) (m.report.state.pending.map Zv) (m.report.state.marks.map Zh) (m.report.state.answers.map Zx) (m.report.state.entries.map Ze) (Zb m.report.state.commits) m.report.ready m.report.next.number (Za m.report.next.members) (Za m.report.next.owners) (m.report.proposal.slots.map Zg) (m.report.proposal.pending.map Zv) (m.report.proposal.marks.map Zh) (m.report.proposal.answers.map Zx) (m.report.proposal.entries.map Ze) (Zb m.report.proposal.commits)=some (ZAK m):=by
 rw [Zvm,ZE9 _ h,Zzr,ZCL,ZDN,ZJ,List.length_map,ZB,List.length_map,Zml,Zml,Zml,Zml,ZrS m.round,ZrS m.region,ZrS m.slot,ZrS m.err,ZrS m.base]
 have e:((cop .eql m.op.core 0)&&((cop .eql m.op.op 0)&&((cop .eql m.op.part 0)&&true)))=decide (m.op=zid):=by
  rw [Zk,Y7,Kw,decide_eq_true_eq]
 rw [e]
 simp only [Option.bind_some]
 refine Eq.trans (Jq _ (Jq _ (Jq _ (Jq _ (Jq _ (Jq _ (Jq _ (Jq _ (Jq _ (Jq _ (Jq _ (Jq _ (Jq _ (Jq _ (rfl))))))))))))))) ?_
 refine congrArg some ?_
 show _=(zf m 0&&(zf m 1&&(zf m 2&&(zf m 3&&(zf m 4&&(zf m 5&&(zf m 6&&(zf m 7&&(zf m 8&&(zf m 9&&(zf m 10&&(zf m 11&&(zf m 12&&(zf m 13&&(zf m 14&&true)))))))))))))))
 simp only [zf,Bool.and_true]
 ac_rfl
end Go.Proofs.YtjldbnbdcmfbmaaGreat
end

section
namespace Go.Proofs.YtjldbnbdcmfbmaaGreat
open Go Go.AM
set_option linter.unusedSimpArgs false
set_option linter.unusedVariables false
set_option maxRecDepth 100000
def kf:Nat→List Nat
 | 1 => [0, 1]
 | 2 => [0, 2, 3, 4, 5]
 | 3 => [0, 2]
 | 4 => [0, 2, 6, 5]
 | 5 => [0, 2, 3]
 | 6 => [0, 2, 7]
 | 7 => [0, 2]
 | 8 => [0, 2]
 | 9 => [0, 2]
 | 10 => [0, 2]
 | 11 => [0, 2]
 | 12 => [8, 9]
 | 13 => [8, 10]
 | 14 => [8, 11, 9, 12, 13]
 | 15 => [8]
 | 16 => [8]
 | 17 => [9, 14]
 | _ => []
def fc (l:List Nat):List (List AV):=l.map fun f:Nat=>[I (f:Int)]
theorem s32:∀ n:Nat,1≤n→n≤17→g32 (n:Int)=some (fc (kf n),true)
 | 1, _, _ => by rw [Y2]; rfl
 | 2, _, _ => by rw [Y2]; rfl
 | 3, _, _ => by rw [Y2]; rfl
 | 4, _, _ => by rw [Y2]; rfl
 | 5, _, _ => by rw [Y2]; rfl
 | 6, _, _ => by rw [Y2]; rfl
 | 7, _, _ => by rw [Y2]; rfl
 | 8, _, _ => by rw [Y2]; rfl
 | 9, _, _ => by rw [Y2]; rfl
 | 10, _, _ => by rw [Y2]; rfl
 | 11, _, _ => by rw [Y2]; rfl
 | 12, _, _ => by rw [Y2]; rfl
 | 13, _, _ => by rw [Y2]; rfl
 | 14, _, _ => by rw [Y2]; rfl
 | 15, _, _ => by rw [Y2]; rfl
 | 16, _, _ => by rw [Y2]; rfl
 | 17, _, _ => by rw [Y2]; rfl
 | n + 18, _, h => absurd h (by omega)
theorem ZDD (k:Int) (h:¬ (1≤k∧k≤17)):g32 k=some (E0,false):=by
 rw [Y2]
 rw [if_neg (show ¬ (cop .eql k 1)=true by simp only [CQ];omega)]
 rw [if_neg (show ¬ (cop .eql k 2)=true by simp only [CQ];omega)]
 rw [if_neg (show ¬ (cop .eql k 3)=true by simp only [CQ];omega)]
 rw [if_neg (show ¬ (cop .eql k 7)=true by simp only [CQ];omega)]
 rw [if_neg (show ¬ (cop .eql k 8)=true by simp only [CQ];omega)]
 rw [if_neg (show ¬ (cop .eql k 9)=true by simp only [CQ];omega)]
 rw [if_neg (show ¬ (cop .eql k 10)=true by simp only [CQ];omega)]
 rw [if_neg (show ¬ (cop .eql k 11)=true by simp only [CQ];omega)]
 rw [if_neg (show ¬ (cop .eql k 4)=true by simp only [CQ];omega)]
 rw [if_neg (show ¬ (cop .eql k 5)=true by simp only [CQ];omega)]
 rw [if_neg (show ¬ (cop .eql k 6)=true by simp only [CQ];omega)]
 rw [if_neg (show ¬ (cop .eql k 12)=true by simp only [CQ];omega)]
 rw [if_neg (show ¬ (cop .eql k 13)=true by simp only [CQ];omega)]
 rw [if_neg (show ¬ (cop .eql k 14)=true by simp only [CQ];omega)]
 rw [if_neg (show ¬ (cop .eql k 15)=true by simp only [CQ];omega)]
 rw [if_neg (show ¬ (cop .eql k 16)=true by simp only [CQ];omega)]
 rw [if_neg (show ¬ (cop .eql k 17)=true by simp only [CQ];omega)]
theorem Zxz (n:Nat):∀ f∈kf n,f < 15:=by
 intro f hf
 unfold kf at hf
 split at hf<;>simp at hf<;>omega
theorem Znx {γ:Type} {l:List Nat} {i:Nat} (h:i < l.length) (k:Int→Option γ):Zm (fc l) (i:Int) [.int .i64] k=k (l[i] : Int):=YI (f:=fun n:Nat=>[I (n:Int)]) (sh:=[.int .i64]) (v:=fun n:Nat=>(n:Int)) (fun _=>rfl) h k
theorem ZpK (r:Msg) (f:Nat) (h:r.req.src.path.length < 2^63):(clr r f).req.src.path.length < 2^63:=by
 unfold clr
 split<;>first | exact h | (show ([] : List Id).length < 2^63;simp)
theorem l12 (m:Msg) (h:m.Fits) (L:List Nat) (hL:∀ f∈L,f < 15) (hn:L.length < 2^63):∀ (j i fuel:Nat) (r:Msg),L.length=i+j→j < fuel→r.req.src.path.length < 2^63→
  Zp2 fuel m.kind m.view m.frm m.to m.round m.region m.slot m.op.core m.op.op m.op.part m.err m.settled m.req.id.core m.req.id.op m.req.id.part m.req.call.kind m.req.call.slot m.req.call.dest m.req.call.core m.req.call.mask m.req.call.object m.req.call.bits m.req.call.level m.req.call.offset m.req.call.count m.req.call.index m.req.call.addr m.req.region m.req.width m.req.src.id.core m.req.src.id.op m.req.src.id.part (Zb m.req.src.path) m.req.src.cap.kind m.req.src.cap.base m.req.src.cap.bits m.req.src.cap.rights m.req.src.cap.width m.req.src.cap.level m.req.src.cap.device (Zb m.ids) (m.nodes.map ZY) (Za m.cores) (m.moves.map ZU) m.base m.next.number (Za m.next.members) (Za m.next.owners) (m.state.slots.map Zg) (m.state.pending.map Zv) (m.state.marks.map Zh) (m.state.answers.map Zx) (m.state.entries.map Ze) (Zb m.state.commits) m.report.core m.report.view.number (Za m.report.view.members) (Za m.report.view.owners) (m.report.state.slots.map Zg) (m.report.state.pending.map Zv) (m.report.state.marks.map Zh) (m.report.state.answers.map Zx) (m.report.state.entries.map Ze) (Zb m.report.state.commits) m.report.ready m.report.next.number (Za m.report.next.members) (Za m.report.next.owners) (m.report.proposal.slots.map Zg) (m.report.proposal.pending.map Zv) (m.report.proposal.marks.map Zh) (m.report.proposal.answers.map Zx) (m.report.proposal.entries.map Ze) (Zb m.report.proposal.commits) r.kind r.view r.frm r.to r.round r.region r.slot r.op.core r.op.op r.op.part r.err r.settled r.req.id.core r.req.id.op r.req.id.part r.req.call.kind r.req.call.slot r.req.call.dest r.req.call.core r.req.call.mask r.req.call.object r.req.call.bits r.req.call.level r.req.call.offset r.req.call.count r.req.call.index r.req.call.addr r.req.region r.req.width r.req.src.id.core r.req.src.id.op r.req.src.id.part (Zb r.req.src.path) r.req.src.cap.kind r.req.src.cap.base r.req.src.cap.bits r.req.src.cap.rights r.req.src.cap.width r.req.src.cap.level r.req.src.cap.device (Zb r.ids) (r.nodes.map ZY) (Za r.cores) (r.moves.map ZU) r.base r.next.number (Za r.next.members) (Za r.next.owners) (r.state.slots.map Zg) (r.state.pending.map Zv) (r.state.marks.map Zh) (r.state.answers.map Zx) (r.state.entries.map Ze) (Zb r.state.commits) r.report.core r.report.view.number (Za r.report.view.members) (Za r.report.view.owners) (r.report.state.slots.map Zg) (r.report.state.pending.map Zv) (r.report.state.marks.map Zh) (r.report.state.answers.map Zx) (r.report.state.entries.map Ze) (Zb r.report.state.commits) r.report.ready r.report.next.number (Za r.report.next.members) (Za r.report.next.owners) (r.report.proposal.slots.map Zg) (r.report.proposal.pending.map Zv) (r.report.proposal.marks.map Zh) (r.report.proposal.answers.map Zx) (r.report.proposal.entries.map Ze) (Zb r.report.proposal.commits) (fc L) (L.length:Int) (i:Int)=some ((L.drop i).all (Zi m)&&ZAK ((L.drop i).foldl clr r)):=by
 intro j
 induction j with
 | zero =>
  intro i fuel r hij hf hr
  obtain ⟨f,rfl⟩:∃ f,fuel=f+1:=⟨fuel-1,by omega⟩
  refine (Zkw ..).trans ?_
  rw [if_neg (ZT (by omega)),s37 r hr,Option.bind_some,List.drop_of_length_le (by omega)]
  rfl
 | succ j ih =>
  intro i fuel r hij hf hr
  obtain ⟨f,rfl⟩:∃ f,fuel=f+1:=⟨fuel-1,by omega⟩
  have hi:i < L.length:=by omega
  have hlt:=hL _ (List.getElem_mem hi)
  refine (Zkw ..).trans ?_
  rw [if_pos (ZQ hi)]
  refine (Znx hi _).trans ?_
  rw [s35 m h _ hlt,Option.bind_some,List.drop_eq_getElem_cons hi,List.all_cons,List.foldl_cons,ZN hi hn]
  cases Zi m L[i] with
  | false => rfl
  | true =>
   rw [if_neg (by simp),s36 r _ hlt,Option.bind_some,Bool.true_and]
   exact ih (i+1) f (clr r L[i]) (by omega) (by omega) (ZpK r _ hr)
def kindOk (k:Int):Bool:=decide (1≤k∧k≤17)
def headOk (m:Msg):Bool:=kindOk m.kind&&JA m.view&&Zs m.frm&&Zs m.to
def rest (n:Nat) (m:Msg):Bool:=(List.range 15).all (fun g=>(kf n).contains g||zf m g)
def Jn (m:Msg):Bool:=headOk m&&((kf m.kind.toNat).all (Zi m)&&rest m.kind.toNat m)
theorem Zr3 (m:Msg):∀ n:Nat,1≤n→n≤17→ZAK ((kf n).foldl clr m)=rest n m
 | 1, _, _ => by kernel_rfl
 | 2, _, _ => by kernel_rfl
 | 3, _, _ => by kernel_rfl
 | 4, _, _ => by kernel_rfl
 | 5, _, _ => by kernel_rfl
 | 6, _, _ => by kernel_rfl
 | 7, _, _ => by kernel_rfl
 | 8, _, _ => by kernel_rfl
 | 9, _, _ => by kernel_rfl
 | 10, _, _ => by kernel_rfl
 | 11, _, _ => by kernel_rfl
 | 12, _, _ => by kernel_rfl
 | 13, _, _ => by kernel_rfl
 | 14, _, _ => by kernel_rfl
 | 15, _, _ => by kernel_rfl
 | 16, _, _ => by kernel_rfl
 | 17, _, _ => by kernel_rfl
 | n + 18, _, h => absurd h (by omega)
theorem s12 (m:Msg) (h:m.Fits):g12 m.kind m.view m.frm m.to m.round m.region m.slot m.op.core m.op.op m.op.part m.err m.settled m.req.id.core m.req.id.op m.req.id.part m.req.call.kind m.req.call.slot m.req.call.dest m.req.call.core m.req.call.mask m.req.call.object m.req.call.bits m.req.call.level m.req.call.offset m.req.call.count m.req.call.index m.req.call.addr m.req.region m.req.width m.req.src.id.core m.req.src.id.op m.req.src.id.part (Zb m.req.src.path) m.req.src.cap.kind m.req.src.cap.base m.req.src.cap.bits m.req.src.cap.rights m.req.src.cap.width m.req.src.cap.level m.req.src.cap.device (Zb m.ids) (m.nodes.map ZY) (Za m.cores) (m.moves.map ZU) m.base m.next.number (Za m.next.members) (Za m.next.owners) (m.state.slots.map Zg) (m.state.pending.map Zv) (m.state.marks.map Zh) (m.state.answers.map Zx) (m.state.entries.map Ze) (Zb m.state.commits) m.report.core m.report.view.number (Za m.report.view.members) (Za m.report.view.owners) (m.report.state.slots.map Zg) (m.report.state.pending.map Zv) (m.report.state.marks.map Zh) (m.report.state.answers.map Zx) (m.report.state.entries.map Ze) (Zb m.report.state.commits) m.report.ready m.report.next.number (Za m.report.next.members) (Za m.report.next.owners) (m.report.proposal.slots.map Zg) (m.report.proposal.pending.map Zv) (m.report.proposal.marks.map Zh) (m.report.proposal.answers.map Zx) (m.report.proposal.entries.map Ze) (Zb m.report.proposal.commits)=some (Jn m):=by
 rw [Zxh]
 unfold Jn headOk
 by_cases hk:1≤m.kind∧m.kind≤17
 ·obtain ⟨n,hn⟩:∃ n:Nat,m.kind=n:=⟨m.kind.toNat,by omega⟩
  have h1:kindOk m.kind=true:=decide_eq_true hk
  have e19:g32 m.kind=some (fc (kf n),true):=by rw [hn];exact s32 n (by omega) (by omega)
  rw [e19,Option.bind_some,s33,s34,s34,Option.bind_some,Option.bind_some,Option.bind_some,h1]
  have hlen:(fc (kf n)).length=(kf n).length:=List.length_map _
  have hsz:(kf n).length < 2^63:=by
   have:(kf n).length≤5:=by unfold kf;split<;>simp
   omega
  have e:=l12 m h (kf n) (Zxz n) hsz (kf n).length 0 Zr m (by omega) (by have:=J5 hsz;omega) h.req
  rw [List.drop_zero,Zr3 m n (by omega) (by omega)] at e
  have hk2:m.kind.toNat=n:=by omega
  rw [hk2]
  dsimp only
  rw [hlen]
  refine (if_neg (by simp)).trans ?_
  cases JA m.view<;>cases Zs m.frm<;>cases Zs m.to<;>first | rfl | exact e
 ·have h1:kindOk m.kind=false:=decide_eq_false hk
  rw [ZDD _ hk,Option.bind_some,h1]
  rfl
end Go.Proofs.YtjldbnbdcmfbmaaGreat
end

section
namespace Go.Proofs.YtjldbnbdcmfbmaaGreat
open Go Go.AM
set_option linter.unusedSimpArgs false
set_option linter.unusedVariables false
set_option maxRecDepth 100000
theorem Zq9 (a b:Int):cop .eql a b=decide (a=b):=rfl
def at2 {α:Type} (q:α→α→Bool) (l m:List α) (i:Nat):Bool:=match l[i]?,m[i]? with | some a,some b=>q a b | _,_=>true
def Yl {α:Type} (q:α→α→Bool) (l m:List α):Bool:=decide (l.length=m.length)&&(List.range' 0 l.length).all (at2 q l m)
theorem Zba {α:Type} (q:α→α→Bool) {l m:List α} {i:Nat} (h:i < l.length) (h':i < m.length):at2 q l m i=q l[i] m[i]:=by
 unfold at2
 rw [List.getElem?_eq_getElem h,List.getElem?_eq_getElem h']
def Zay (a b:Req):Bool:=decide (a.id.core=b.id.core∧a.id.op=b.id.op∧a.id.part=b.id.part)&&decide (a.call.kind=b.call.kind∧a.call.slot=b.call.slot∧a.call.dest=b.call.dest∧a.call.core=b.call.core∧a.call.mask=b.call.mask∧a.call.object=b.call.object∧a.call.bits=b.call.bits∧a.call.level=b.call.level∧a.call.offset=b.call.offset∧a.call.count=b.call.count∧a.call.index=b.call.index∧a.call.addr=b.call.addr)&&decide (a.region=b.region)&&decide (a.width=b.width)&&Vk a.src b.src
theorem s68 (a b:Req) (ha:a.src.path.length < 2^63) (hb:b.src.path.length < 2^63):g68 a.id.core a.id.op a.id.part a.call.kind a.call.slot a.call.dest a.call.core a.call.mask a.call.object a.call.bits a.call.level a.call.offset a.call.count a.call.index a.call.addr a.region a.width a.src.id.core a.src.id.op a.src.id.part (Zb a.src.path) a.src.cap.kind a.src.cap.base a.src.cap.bits a.src.cap.rights a.src.cap.width a.src.cap.level a.src.cap.device b.id.core b.id.op b.id.part b.call.kind b.call.slot b.call.dest b.call.core b.call.mask b.call.object b.call.bits b.call.level b.call.offset b.call.count b.call.index b.call.addr b.region b.width b.src.id.core b.src.id.op b.src.id.part (Zb b.src.path) b.src.cap.kind b.src.cap.base b.src.cap.bits b.src.cap.rights b.src.cap.width b.src.cap.level b.src.cap.device=some (Zay a b):=by
 rw [Zve,Zm7 _ _ ha hb,Option.bind_some]
 unfold Zay
 repeat' split
 all_goals (refine congrArg some ?_;rw [Zk];simp only [CQ] at * <;> grind)
theorem s70 (l m:List Yz) (hl:l.length < 2^63) (pl:∀ x∈l,x.path.length < 2^63) (pm:∀ x∈m,x.path.length < 2^63):g70 (l.map ZY) (m.map ZY)=some (Yl Vk l m):=by
 rw [ZvA,List.length_map,List.length_map]
 unfold Yl
 by_cases h:l.length=m.length
 ·rw [if_neg (show ¬ (cop .neq (l.length:Int) (m.length:Int))=true by simp only [CQ];omega),decide_eq_true h,Bool.true_and]
  have:=ZW (F:=fun k i=>ZmE k (l.map ZY) (m.map ZY) i) (n:=l.length) (fin:=some true) (bad:=some false) (at2 Vk l m) hl 0 (by omega)
   (fun k i _ hi=>by
    have hi':i < m.length:=by omega
    refine (Zk5 ..).trans ?_
    rw [List.length_map,if_pos (ZQ hi)]
    refine (Yv hi _).trans ?_
    refine (Yv hi' _).trans ?_
    rw [ZN hi hl,Zba _ hi hi']
    generalize ZmE k (l.map ZY) (m.map ZY) ((i+1:Nat):Int)=X
    try simp only [Yv hi,Yv hi',Zhg,d2,d4,d8,d16,Zm7 _ _ (pl _ (List.getElem_mem hi)) (pm _ (List.getElem_mem hi')),Option.bind_some]
    skip
    repeat' split
    all_goals (simp only [Zq9,CQ] at * <;> grind))
   (fun k i hi=>by refine (Zk5 ..).trans ?_;rw [List.length_map,if_neg (ZT hi)])
  rw [Nat.sub_zero] at this
  refine Eq.trans this ?_
  cases (List.range' 0 l.length).all (at2 Vk l m)<;>rfl
 ·rw [if_pos (show (cop .neq (l.length:Int) (m.length:Int))=true by simp only [CQ];omega),decide_eq_false h]
  rfl
def Zb3:Int→Int→Bool:=fun a b=>decide (a=b)
theorem s71 (l m:List Int) (hl:l.length < 2^63):g71 (Za l) (Za m)=some (Yl Zb3 l m):=by
 rw [Zvk,ZB,ZB]
 unfold Yl
 by_cases h:l.length=m.length
 ·rw [if_neg (show ¬ (cop .neq (l.length:Int) (m.length:Int))=true by simp only [CQ];omega),decide_eq_true h,Bool.true_and]
  have:=ZW (F:=fun k i=>Zna k (Za l) (Za m) i) (n:=l.length) (fin:=some true) (bad:=some false) (at2 Zb3 l m) hl 0 (by omega)
   (fun k i _ hi=>by
    have hi':i < m.length:=by omega
    refine (Zj9 ..).trans ?_
    rw [ZB,if_pos (ZQ hi)]
    refine (ZG hi _).trans ?_
    refine (ZG hi' _).trans ?_
    rw [ZN hi hl,Zba _ hi hi']
    generalize Zna k (Za l) (Za m) ((i+1:Nat):Int)=X
    try simp only [ZG hi,ZG hi',d2,d4,d8,d16,Option.bind_some]
    generalize l[i]=a
    generalize m[i]=b
    unfold Zb3
    repeat' split
    all_goals (simp only [Zq9,CQ] at * <;> grind))
   (fun k i hi=>by refine (Zj9 ..).trans ?_;rw [ZB,if_neg (ZT hi)])
  rw [Nat.sub_zero] at this
  refine Eq.trans this ?_
  cases (List.range' 0 l.length).all (at2 Zb3 l m)<;>rfl
 ·rw [if_pos (show (cop .neq (l.length:Int) (m.length:Int))=true by simp only [CQ];omega),decide_eq_false h]
  rfl
def ZbJ:ZeG→ZeG→Bool:=fun a b=>decide (a.region=b.region∧a.to=b.to)
theorem s72 (l m:List ZeG) (hl:l.length < 2^63):g72 (l.map ZU) (m.map ZU)=some (Yl ZbJ l m):=by
 rw [ZxP,List.length_map,List.length_map]
 unfold Yl
 by_cases h:l.length=m.length
 ·rw [if_neg (show ¬ (cop .neq (l.length:Int) (m.length:Int))=true by simp only [CQ];omega),decide_eq_true h,Bool.true_and]
  have:=ZW (F:=fun k i=>Zol k (l.map ZU) (m.map ZU) i) (n:=l.length) (fin:=some true) (bad:=some false) (at2 ZbJ l m) hl 0 (by omega)
   (fun k i _ hi=>by
    have hi':i < m.length:=by omega
    refine (Zj1 ..).trans ?_
    rw [List.length_map,if_pos (ZQ hi)]
    refine (Yh hi _).trans ?_
    refine (Yh hi' _).trans ?_
    rw [ZN hi hl,Zba _ hi hi']
    generalize Zol k (l.map ZU) (m.map ZU) ((i+1:Nat):Int)=X
    try simp only [Yh hi,Yh hi',d2,d4,d8,d16,Option.bind_some]
    generalize l[i]=a
    generalize m[i]=b
    unfold ZbJ
    repeat' split
    all_goals (simp only [Zq9,CQ] at * <;> grind))
   (fun k i hi=>by refine (Zj1 ..).trans ?_;rw [List.length_map,if_neg (ZT hi)])
  rw [Nat.sub_zero] at this
  refine Eq.trans this ?_
  cases (List.range' 0 l.length).all (at2 ZbJ l m)<;>rfl
 ·rw [if_pos (show (cop .neq (l.length:Int) (m.length:Int))=true by simp only [CQ];omega),decide_eq_false h]
  rfl
def ZiA:Kx→Kx→Bool:=fun a b=>decide (a.op=b.op)&&decide (a.lock.core=b.lock.core∧a.lock.op=b.lock.op∧a.lock.part=b.lock.part)&&Vk a.node b.node
theorem ZEI (l m:List Kx) (hl:l.length < 2^63) (pl:∀ x∈l,x.node.path.length < 2^63) (pm:∀ x∈m,x.node.path.length < 2^63):ZCc (l.map Zg) (m.map Zg)=some (Yl ZiA l m):=by
 rw [Zs4,List.length_map,List.length_map]
 unfold Yl
 by_cases h:l.length=m.length
 ·rw [if_neg (show ¬ (cop .neq (l.length:Int) (m.length:Int))=true by simp only [CQ];omega),decide_eq_true h,Bool.true_and]
  have:=ZW (F:=fun k i=>Zhu k (l.map Zg) (m.map Zg) i) (n:=l.length) (fin:=some true) (bad:=some false) (at2 ZiA l m) hl 0 (by omega)
   (fun k i _ hi=>by
    have hi':i < m.length:=by omega
    refine (Zgm ..).trans ?_
    rw [List.length_map,if_pos (ZQ hi)]
    refine (Jl hi _).trans ?_
    refine (Jl hi' _).trans ?_
    rw [ZN hi hl,Zba _ hi hi']
    generalize Zhu k (l.map Zg) (m.map Zg) ((i+1:Nat):Int)=X
    try simp only [Jl hi,Jl hi',Zbt,d2,d4,d8,d16,Zm7 _ _ (pl _ (List.getElem_mem hi)) (pm _ (List.getElem_mem hi')),Option.bind_some]
    generalize l[i]=a
    generalize m[i]=b
    unfold ZiA
    repeat' split
    all_goals (simp only [Zq9,CQ] at * <;> grind))
   (fun k i hi=>by refine (Zgm ..).trans ?_;rw [List.length_map,if_neg (ZT hi)])
  rw [Nat.sub_zero] at this
  refine Eq.trans this ?_
  cases (List.range' 0 l.length).all (at2 ZiA l m)<;>rfl
 ·rw [if_pos (show (cop .neq (l.length:Int) (m.length:Int))=true by simp only [CQ];omega),decide_eq_false h]
  rfl
theorem ZEm (l m:List Req) (hl:l.length < 2^63) (pl:∀ x∈l,x.src.path.length < 2^63) (pm:∀ x∈m,x.src.path.length < 2^63):ZAH (l.map Zv) (m.map Zv)=some (Yl Zay l m):=by
 rw [Ztb,List.length_map,List.length_map]
 unfold Yl
 by_cases h:l.length=m.length
 ·rw [if_neg (show ¬ (cop .neq (l.length:Int) (m.length:Int))=true by simp only [CQ];omega),decide_eq_true h,Bool.true_and]
  have:=ZW (F:=fun k i=>Zhd k (l.map Zv) (m.map Zv) i) (n:=l.length) (fin:=some true) (bad:=some false) (at2 Zay l m) hl 0 (by omega)
   (fun k i _ hi=>by
    have hi':i < m.length:=by omega
    refine (Zia ..).trans ?_
    rw [List.length_map,if_pos (ZQ hi)]
    refine (Jz hi _).trans ?_
    refine (Jz hi' _).trans ?_
    rw [ZN hi hl,Zba _ hi hi']
    generalize Zhd k (l.map Zv) (m.map Zv) ((i+1:Nat):Int)=X
    try simp only [Jz hi,Jz hi',Zmk,d2,d4,d8,d16,s68 _ _ (pl _ (List.getElem_mem hi)) (pm _ (List.getElem_mem hi')),Option.bind_some]
    skip
    repeat' split
    all_goals (simp only [Zq9,CQ] at * <;> grind))
   (fun k i hi=>by refine (Zia ..).trans ?_;rw [List.length_map,if_neg (ZT hi)])
  rw [Nat.sub_zero] at this
  refine Eq.trans this ?_
  cases (List.range' 0 l.length).all (at2 Zay l m)<;>rfl
 ·rw [if_pos (show (cop .neq (l.length:Int) (m.length:Int))=true by simp only [CQ];omega),decide_eq_false h]
  rfl
def ZcF:Zcm→Zcm→Bool:=fun a b=>decide (a.region=b.region∧a.op.core=b.op.core∧a.op.op=b.op.op∧a.op.part=b.op.part)
theorem ZFa (l m:List Zcm) (hl:l.length < 2^63):ZAV (l.map Zh) (m.map Zh)=some (Yl ZcF l m):=by
 rw [Zt5,List.length_map,List.length_map]
 unfold Yl
 by_cases h:l.length=m.length
 ·rw [if_neg (show ¬ (cop .neq (l.length:Int) (m.length:Int))=true by simp only [CQ];omega),decide_eq_true h,Bool.true_and]
  have:=ZW (F:=fun k i=>Zh2 k (l.map Zh) (m.map Zh) i) (n:=l.length) (fin:=some true) (bad:=some false) (at2 ZcF l m) hl 0 (by omega)
   (fun k i _ hi=>by
    have hi':i < m.length:=by omega
    refine (Zhi ..).trans ?_
    rw [List.length_map,if_pos (ZQ hi)]
    refine (Ju hi _).trans ?_
    refine (Ju hi' _).trans ?_
    rw [ZN hi hl,Zba _ hi hi']
    generalize Zh2 k (l.map Zh) (m.map Zh) ((i+1:Nat):Int)=X
    try simp only [Ju hi,Ju hi',d2,d4,d8,d16,Option.bind_some]
    generalize l[i]=a
    generalize m[i]=b
    unfold ZcF
    repeat' split
    all_goals (simp only [Zq9,CQ] at * <;> grind))
   (fun k i hi=>by refine (Zhi ..).trans ?_;rw [List.length_map,if_neg (ZT hi)])
  rw [Nat.sub_zero] at this
  refine Eq.trans this ?_
  cases (List.range' 0 l.length).all (at2 ZcF l m)<;>rfl
 ·rw [if_pos (show (cop .neq (l.length:Int) (m.length:Int))=true by simp only [CQ];omega),decide_eq_false h]
  rfl
def ZiN:Ans→Ans→Bool:=fun a b=>decide (a.op=b.op∧a.err=b.err)
theorem ZD9 (l m:List Ans) (hl:l.length < 2^63):ZBq (l.map Zx) (m.map Zx)=some (Yl ZiN l m):=by
 rw [Zr5,List.length_map,List.length_map]
 unfold Yl
 by_cases h:l.length=m.length
 ·rw [if_neg (show ¬ (cop .neq (l.length:Int) (m.length:Int))=true by simp only [CQ];omega),decide_eq_true h,Bool.true_and]
  have:=ZW (F:=fun k i=>Zhn k (l.map Zx) (m.map Zx) i) (n:=l.length) (fin:=some true) (bad:=some false) (at2 ZiN l m) hl 0 (by omega)
   (fun k i _ hi=>by
    have hi':i < m.length:=by omega
    refine (Zgk ..).trans ?_
    rw [List.length_map,if_pos (ZQ hi)]
    refine (JS hi _).trans ?_
    refine (JS hi' _).trans ?_
    rw [ZN hi hl,Zba _ hi hi']
    generalize Zhn k (l.map Zx) (m.map Zx) ((i+1:Nat):Int)=X
    try simp only [JS hi,JS hi',d2,d4,d8,d16,Option.bind_some]
    generalize l[i]=a
    generalize m[i]=b
    unfold ZiN
    repeat' split
    all_goals (simp only [Zq9,CQ] at * <;> grind))
   (fun k i hi=>by refine (Zgk ..).trans ?_;rw [List.length_map,if_neg (ZT hi)])
  rw [Nat.sub_zero] at this
  refine Eq.trans this ?_
  cases (List.range' 0 l.length).all (at2 ZiN l m)<;>rfl
 ·rw [if_pos (show (cop .neq (l.length:Int) (m.length:Int))=true by simp only [CQ];omega),decide_eq_false h]
  rfl
def ZiZ:ZI→ZI→Bool:=fun a b=>decide (a.core=b.core)&&decide (a.slot=b.slot)&&Vk a.node b.node
theorem ZE7 (l m:List ZI) (hl:l.length < 2^63) (pl:∀ x∈l,x.node.path.length < 2^63) (pm:∀ x∈m,x.node.path.length < 2^63):ZBw (l.map Ze) (m.map Ze)=some (Yl ZiZ l m):=by
 rw [Ztx,List.length_map,List.length_map]
 unfold Yl
 by_cases h:l.length=m.length
 ·rw [if_neg (show ¬ (cop .neq (l.length:Int) (m.length:Int))=true by simp only [CQ];omega),decide_eq_true h,Bool.true_and]
  have:=ZW (F:=fun k i=>Zhf k (l.map Ze) (m.map Ze) i) (n:=l.length) (fin:=some true) (bad:=some false) (at2 ZiZ l m) hl 0 (by omega)
   (fun k i _ hi=>by
    have hi':i < m.length:=by omega
    refine (Zg7 ..).trans ?_
    rw [List.length_map,if_pos (ZQ hi)]
    refine (Zq hi _).trans ?_
    refine (Zq hi' _).trans ?_
    rw [ZN hi hl,Zba _ hi hi']
    generalize Zhf k (l.map Ze) (m.map Ze) ((i+1:Nat):Int)=X
    try simp only [Zq hi,Zq hi',J8,d2,d4,d8,d16,Zm7 _ _ (pl _ (List.getElem_mem hi)) (pm _ (List.getElem_mem hi')),Option.bind_some]
    generalize l[i]=a
    generalize m[i]=b
    unfold ZiZ
    repeat' split
    all_goals (simp only [Zq9,CQ] at * <;> grind))
   (fun k i hi=>by refine (Zg7 ..).trans ?_;rw [List.length_map,if_neg (ZT hi)])
  rw [Nat.sub_zero] at this
  refine Eq.trans this ?_
  cases (List.range' 0 l.length).all (at2 ZiZ l m)<;>rfl
 ·rw [if_pos (show (cop .neq (l.length:Int) (m.length:Int))=true by simp only [CQ];omega),decide_eq_false h]
  rfl
def Zd6 (a b:V7):Bool:=cop .eql a.number b.number&&(Yl Zb3 a.members b.members&&Yl Zb3 a.owners b.owners)
def WT (a b:JW):Bool:=Yl ZiA a.slots b.slots&&(Yl Zay a.pending b.pending&&(Yl ZcF a.marks b.marks&&(Yl ZiN a.answers b.answers&&(Yl ZiZ a.entries b.entries&&decide (a.commits=b.commits)))))
def V3 (a b:JF):Bool:=cop .eql a.core b.core&&(Zd6 a.view b.view&&(WT a.state b.state&&((a.ready == b.ready)&&(Zd6 a.next b.next&&WT a.proposal b.proposal))))
theorem s73 (a b:V7) (h:a.Fits):g73 a.number (Za a.members) (Za a.owners) b.number (Za b.members) (Za b.owners)=some (Zd6 a b):=by
 rw [Zu1,s71 _ _ h.members,s71 _ _ h.owners]
 exact Jq _ (Jq _ rfl)
theorem s74 (a b:JW) (h:a.Fits) (h':b.Fits):g74 (a.slots.map Zg) (a.pending.map Zv) (a.marks.map Zh) (a.answers.map Zx) (a.entries.map Ze) (Zb a.commits) (b.slots.map Zg) (b.pending.map Zv) (b.marks.map Zh) (b.answers.map Zx) (b.entries.map Ze) (Zb b.commits)=some (WT a b):=by
 rw [Zwu,ZEI _ _ h.slots h.slot h'.slot,ZEm _ _ h.pending h.req h'.req,ZFa _ _ h.marks,ZD9 _ _ h.answers,ZE7 _ _ h.entries h.entry h'.entry,s69 _ _ h.commits h'.commits]
 exact Jq _ (Jq _ (Jq _ (Jq _ (Jq _ rfl))))
theorem s75 (a b:JF) (h:a.Fits) (h':b.Fits):g75 a.core a.view.number (Za a.view.members) (Za a.view.owners) (a.state.slots.map Zg) (a.state.pending.map Zv) (a.state.marks.map Zh) (a.state.answers.map Zx) (a.state.entries.map Ze) (Zb a.state.commits) a.ready a.next.number (Za a.next.members) (Za a.next.owners) (a.proposal.slots.map Zg) (a.proposal.pending.map Zv) (a.proposal.marks.map Zh) (a.proposal.answers.map Zx) (a.proposal.entries.map Ze) (Zb a.proposal.commits) b.core b.view.number (Za b.view.members) (Za b.view.owners) (b.state.slots.map Zg) (b.state.pending.map Zv) (b.state.marks.map Zh) (b.state.answers.map Zx) (b.state.entries.map Ze) (Zb b.state.commits) b.ready b.next.number (Za b.next.members) (Za b.next.owners) (b.proposal.slots.map Zg) (b.proposal.pending.map Zv) (b.proposal.marks.map Zh) (b.proposal.answers.map Zx) (b.proposal.entries.map Ze) (Zb b.proposal.commits)=some (V3 a b):=by
 rw [ZvX,s73 _ _ h.view,s74 _ _ h.state h'.state,s73 _ _ h.next,s74 _ _ h.proposal h'.proposal]
 exact Jq _ (Jq _ (Jq _ (Jq _ (Jq _ rfl))))
theorem nif (c:Bool) {y:Bool} {x:Option Bool} (h:x=some y):(if c=true then some false else x)=some (!c&&y):=by cases c<;>simp [h]
def Zpd (a b:Msg):Bool:=!cop .neq a.kind b.kind&&(!cop .neq a.view b.view&&(!cop .neq a.frm b.frm&&(!cop .neq a.to b.to&&(!cop .neq a.round b.round&&(!cop .neq a.region b.region&&(!cop .neq a.slot b.slot&&(!(!((cop .eql a.op.core b.op.core)&&((cop .eql a.op.op b.op.op)&&((cop .eql a.op.part b.op.part)&&true))))&&(!cop .neq a.err b.err&&(!(!(a.settled == b.settled))&&(!cop .neq a.base b.base&&(Zay a.req b.req&&(decide (a.ids=b.ids)&&(Yl Vk a.nodes b.nodes&&(Yl Zb3 a.cores b.cores&&(Yl ZbJ a.moves b.moves&&(Zd6 a.next b.next&&(WT a.state b.state&&V3 a.report b.report)))))))))))))))))
theorem s19 (a b:Msg) (h:a.Fits) (h':b.Fits):g19 a.kind a.view a.frm a.to a.round a.region a.slot a.op.core a.op.op a.op.part a.err a.settled a.req.id.core a.req.id.op a.req.id.part a.req.call.kind a.req.call.slot a.req.call.dest a.req.call.core a.req.call.mask a.req.call.object a.req.call.bits a.req.call.level a.req.call.offset a.req.call.count a.req.call.index a.req.call.addr a.req.region a.req.width a.req.src.id.core a.req.src.id.op a.req.src.id.part (Zb a.req.src.path) a.req.src.cap.kind a.req.src.cap.base a.req.src.cap.bits a.req.src.cap.rights a.req.src.cap.width a.req.src.cap.level a.req.src.cap.device (Zb a.ids) (a.nodes.map ZY) (Za a.cores) (a.moves.map ZU) a.base a.next.number (Za a.next.members) (Za a.next.owners) (a.state.slots.map Zg) (a.state.pending.map Zv) (a.state.marks.map Zh) (a.state.answers.map Zx) (a.state.entries.map Ze) (Zb a.state.commits) a.report.core a.report.view.number (Za a.report.view.members) (Za a.report.view.owners) (a.report.state.slots.map Zg) (a.report.state.pending.map Zv) (a.report.state.marks.map Zh) (a.report.state.answers.map Zx) (a.report.state.entries.map Ze) (Zb a.report.state.commits) a.report.ready a.report.next.number (Za a.report.next.members) (Za a.report.next.owners) (a.report.proposal.slots.map Zg) (a.report.proposal.pending.map Zv) (a.report.proposal.marks.map Zh) (a.report.proposal.answers.map Zx) (a.report.proposal.entries.map Ze) (Zb a.report.proposal.commits) b.kind b.view b.frm b.to b.round b.region b.slot b.op.core b.op.op b.op.part b.err b.settled b.req.id.core b.req.id.op b.req.id.part b.req.call.kind b.req.call.slot b.req.call.dest b.req.call.core b.req.call.mask b.req.call.object b.req.call.bits b.req.call.level b.req.call.offset b.req.call.count b.req.call.index b.req.call.addr b.req.region b.req.width b.req.src.id.core b.req.src.id.op b.req.src.id.part (Zb b.req.src.path) b.req.src.cap.kind b.req.src.cap.base b.req.src.cap.bits b.req.src.cap.rights b.req.src.cap.width b.req.src.cap.level b.req.src.cap.device (Zb b.ids) (b.nodes.map ZY) (Za b.cores) (b.moves.map ZU) b.base b.next.number (Za b.next.members) (Za b.next.owners) (b.state.slots.map Zg) (b.state.pending.map Zv) (b.state.marks.map Zh) (b.state.answers.map Zx) (b.state.entries.map Ze) (Zb b.state.commits) b.report.core b.report.view.number (Za b.report.view.members) (Za b.report.view.owners) (b.report.state.slots.map Zg) (b.report.state.pending.map Zv) (b.report.state.marks.map Zh) (b.report.state.answers.map Zx) (b.report.state.entries.map Ze) (Zb b.report.state.commits) b.report.ready b.report.next.number (Za b.report.next.members) (Za b.report.next.owners) (b.report.proposal.slots.map Zg) (b.report.proposal.pending.map Zv) (b.report.proposal.marks.map Zh) (b.report.proposal.answers.map Zx) (b.report.proposal.entries.map Ze) (Zb b.report.proposal.commits)=some (Zpd a b):=by
 rw [Zxn,s68 _ _ h.req h'.req,s69 _ _ h.ids h'.ids,s70 _ _ h.nodes h.node h'.node,s71 _ _ h.cores,s72 _ _ h.moves,s73 _ _ h.next,s74 _ _ h.state h'.state,s75 _ _ h.report h'.report]
 exact nif _ (nif _ (nif _ (nif _ (nif _ (nif _ (nif _ (nif _ (nif _ (nif _ (nif _ (Jq _ (Jq _ (Jq _ (Jq _ (Jq _ (Jq _ (Jq _ (rfl))))))))))))))))))
theorem Yt {α:Type} (q:α→α→Bool) (hq:∀ a,q a a=true) (l:List α):Yl q l l=true:=by
 unfold Yl
 rw [decide_eq_true rfl,Bool.true_and,List.all_eq_true]
 intro i hi
 have hi':i < l.length:=by simpa [List.mem_range'] using hi
 rw [Zba q hi' hi',hq]
theorem YC {α:Type} (q:α→α→Bool) (l:List α):Yl q l []=decide (l.length=0):=by
 unfold Yl
 cases l with
 | nil => rfl
 | cons a r => simp
theorem Wz (a:Yz):Vk a a=true:=by simp [Vk]
theorem Zet (a:Req):Zay a a=true:=by simp [Zay,Wz]
theorem Zma (a:Req):Zay a Ja=Zrz a:=by
 have:decide (a.id.core=Ja.id.core∧a.id.op=Ja.id.op∧a.id.part=Ja.id.part)=decide (a.id=zid):=by
  rw [Zk,decide_eq_true_eq,decide_eq_true_eq]
  constructor
  ·rintro ⟨h1,h2,h3⟩
   rcases h:a.id with ⟨x,y,z⟩
   rw [h] at h1 h2 h3
   simp only [Ja,zid] at h1 h2 h3
   subst h1 h2 h3
   rfl
  ·intro h;rw [h];exact ⟨rfl,rfl,rfl⟩
 unfold Zay Zrz
 rw [this]
 rfl
theorem Zeq (a:V7):Zd6 a a=true:=by
 simp [Zd6,Yt Zb3 (fun a=>by simp [Zb3]),cop]
theorem Zbr (a:V7):Zd6 a ZH=ZbX a:=by
 unfold Zd6 ZbX
 rw [show ZH.members = [] from rfl,show ZH.owners = [] from rfl,YC,YC,Bool.and_assoc]
 rfl
theorem ZcY (a:JW):WT a a=true:=by
 simp [WT,Yt ZiA (fun a=>by simp [ZiA,Wz]),Yt Zay Zet,Yt ZcF (fun a=>by simp [ZcF]),Yt ZiN (fun a=>by simp [ZiN]),Yt ZiZ (fun a=>by simp [ZiZ,Wz])]
theorem W9 (a:JW):WT a Zl=Wb a:=by
 have:decide (a.commits=([] : List Id))=decide (a.commits.length=0):=by
  rw [Zk,decide_eq_true_eq,decide_eq_true_eq,List.length_eq_zero_iff]
 unfold WT Wb
 rw [show Zl.slots = [] from rfl,show Zl.pending = [] from rfl,show Zl.marks = [] from rfl,show Zl.answers = [] from rfl,show Zl.entries = [] from rfl,show Zl.commits = [] from rfl,YC,YC,YC,YC,YC,this]
 simp only [Bool.and_assoc]
theorem ZgZ (a:JF):V3 a a=true:=by simp [V3,Zeq,ZcY,cop]
theorem Zgl (a:JF):V3 a Zn=Wk a:=by
 unfold V3 Wk
 rw [show Zn.view=ZH from rfl,show Zn.next=ZH from rfl,show Zn.state=Zl from rfl,show Zn.proposal=Zl from rfl,Zbr,Zbr,W9,W9]
 have e:(a.ready == Zn.ready) = !a.ready:=by cases a.ready<;>rfl
 rw [e]
 simp only [Bool.and_assoc]
 rfl
end Go.Proofs.YtjldbnbdcmfbmaaGreat
end

section
namespace Go.Proofs.YtjldbnbdcmfbmaaGreat
open Go Go.AM
set_option linter.unusedSimpArgs false
set_option linter.unusedVariables false
set_option maxRecDepth 100000
theorem l16 (m x:Msg) (h:m.Fits) (hx:x.Fits):∀ (j i fuel:Nat) (ok:Bool),m.nodes.length=i+j→j < fuel→
  YL fuel m.kind m.view m.frm m.to m.round m.region m.slot m.op.core m.op.op m.op.part m.err m.settled m.req.id.core m.req.id.op m.req.id.part m.req.call.kind m.req.call.slot m.req.call.dest m.req.call.core m.req.call.mask m.req.call.object m.req.call.bits m.req.call.level m.req.call.offset m.req.call.count m.req.call.index m.req.call.addr m.req.region m.req.width m.req.src.id.core m.req.src.id.op m.req.src.id.part (Zb m.req.src.path) m.req.src.cap.kind m.req.src.cap.base m.req.src.cap.bits m.req.src.cap.rights m.req.src.cap.width m.req.src.cap.level m.req.src.cap.device (Zb m.ids) (m.nodes.map ZY) (Za m.cores) (m.moves.map ZU) m.base m.next.number (Za m.next.members) (Za m.next.owners) (m.state.slots.map Zg) (m.state.pending.map Zv) (m.state.marks.map Zh) (m.state.answers.map Zx) (m.state.entries.map Ze) (Zb m.state.commits) m.report.core m.report.view.number (Za m.report.view.members) (Za m.report.view.owners) (m.report.state.slots.map Zg) (m.report.state.pending.map Zv) (m.report.state.marks.map Zh) (m.report.state.answers.map Zx) (m.report.state.entries.map Ze) (Zb m.report.state.commits) m.report.ready m.report.next.number (Za m.report.next.members) (Za m.report.next.owners) (m.report.proposal.slots.map Zg) (m.report.proposal.pending.map Zv) (m.report.proposal.marks.map Zh) (m.report.proposal.answers.map Zx) (m.report.proposal.entries.map Ze) (Zb m.report.proposal.commits) x.kind x.view x.frm x.to x.round x.region x.slot x.op.core x.op.op x.op.part x.err x.settled x.req.id.core x.req.id.op x.req.id.part x.req.call.kind x.req.call.slot x.req.call.dest x.req.call.core x.req.call.mask x.req.call.object x.req.call.bits x.req.call.level x.req.call.offset x.req.call.count x.req.call.index x.req.call.addr x.req.region x.req.width x.req.src.id.core x.req.src.id.op x.req.src.id.part (Zb x.req.src.path) x.req.src.cap.kind x.req.src.cap.base x.req.src.cap.bits x.req.src.cap.rights x.req.src.cap.width x.req.src.cap.level x.req.src.cap.device (Zb x.ids) (x.nodes.map ZY) (Za x.cores) (x.moves.map ZU) x.base x.next.number (Za x.next.members) (Za x.next.owners) (x.state.slots.map Zg) (x.state.pending.map Zv) (x.state.marks.map Zh) (x.state.answers.map Zx) (x.state.entries.map Ze) (Zb x.state.commits) x.report.core x.report.view.number (Za x.report.view.members) (Za x.report.view.owners) (x.report.state.slots.map Zg) (x.report.state.pending.map Zv) (x.report.state.marks.map Zh) (x.report.state.answers.map Zx) (x.report.state.entries.map Ze) (Zb x.report.state.commits) x.report.ready x.report.next.number (Za x.report.next.members) (Za x.report.next.owners) (x.report.proposal.slots.map Zg) (x.report.proposal.pending.map Zv) (x.report.proposal.marks.map Zh) (x.report.proposal.answers.map Zx) (x.report.proposal.entries.map Ze) (Zb x.report.proposal.commits) ok (i:Int)=some (ok&&((m.nodes.drop i).all ZD&&(Z5 m.region&&Zpd m x))):=by
 intro j
 induction j with
 | zero =>
  intro i fuel ok hij hf
  obtain ⟨f,rfl⟩:∃ f,fuel=f+1:=⟨fuel-1,by omega⟩
  refine (ZjZ ..).trans ?_
  rw [List.length_map,if_neg (ZT (by omega)),List.drop_of_length_le (by omega)]
  cases ok with
  | false => rfl
  | true =>
   rw [if_pos rfl,s62,Option.bind_some,s19 m x h hx,Option.bind_some]
   cases Z5 m.region<;>rfl
 | succ j ih =>
  intro i fuel ok hij hf
  obtain ⟨f,rfl⟩:∃ f,fuel=f+1:=⟨fuel-1,by omega⟩
  have hi:i < m.nodes.length:=by omega
  refine (ZjZ ..).trans ?_
  rw [List.length_map,if_pos (ZQ hi)]
  cases ok with
  | false => rfl
  | true =>
   rw [if_pos rfl]
   refine (Yv hi _).trans ?_
   simp only [Zhg,d2,d4,d8,d16]
   rw [s61 _ (h.node _ (List.getElem_mem hi)),Option.bind_some,ZN hi h.nodes,ih (i+1) f _ (by omega) (by omega),List.drop_eq_getElem_cons hi,List.all_cons]
   cases ZD m.nodes[i]<;>rfl
theorem kne {a b:Int} (h:a≠b):¬ (cop .eql a b=true):=by simp only [CQ];exact h
theorem keq {a b:Int} (h:a=b):cop .eql a b=true:=by simp only [CQ];exact h
@[reducible] noncomputable def G10 (m:Msg):=g16 m.kind m.view m.frm m.to m.round m.region m.slot m.op.core m.op.op m.op.part m.err m.settled m.req.id.core m.req.id.op m.req.id.part m.req.call.kind m.req.call.slot m.req.call.dest m.req.call.core m.req.call.mask m.req.call.object m.req.call.bits m.req.call.level m.req.call.offset m.req.call.count m.req.call.index m.req.call.addr m.req.region m.req.width m.req.src.id.core m.req.src.id.op m.req.src.id.part (Zb m.req.src.path) m.req.src.cap.kind m.req.src.cap.base m.req.src.cap.bits m.req.src.cap.rights m.req.src.cap.width m.req.src.cap.level m.req.src.cap.device (Zb m.ids) (m.nodes.map ZY) (Za m.cores) (m.moves.map ZU) m.base m.next.number (Za m.next.members) (Za m.next.owners) (m.state.slots.map Zg) (m.state.pending.map Zv) (m.state.marks.map Zh) (m.state.answers.map Zx) (m.state.entries.map Ze) (Zb m.state.commits) m.report.core m.report.view.number (Za m.report.view.members) (Za m.report.view.owners) (m.report.state.slots.map Zg) (m.report.state.pending.map Zv) (m.report.state.marks.map Zh) (m.report.state.answers.map Zx) (m.report.state.entries.map Ze) (Zb m.report.state.commits) m.report.ready m.report.next.number (Za m.report.next.members) (Za m.report.next.owners) (m.report.proposal.slots.map Zg) (m.report.proposal.pending.map Zv) (m.report.proposal.marks.map Zh) (m.report.proposal.answers.map Zx) (m.report.proposal.entries.map Ze) (Zb m.report.proposal.commits)
@[reducible] noncomputable def G10L (m:Msg):=YL Zr m.kind m.view m.frm m.to m.round m.region m.slot m.op.core m.op.op m.op.part m.err m.settled m.req.id.core m.req.id.op m.req.id.part m.req.call.kind m.req.call.slot m.req.call.dest m.req.call.core m.req.call.mask m.req.call.object m.req.call.bits m.req.call.level m.req.call.offset m.req.call.count m.req.call.index m.req.call.addr m.req.region m.req.width m.req.src.id.core m.req.src.id.op m.req.src.id.part (Zb m.req.src.path) m.req.src.cap.kind m.req.src.cap.base m.req.src.cap.bits m.req.src.cap.rights m.req.src.cap.width m.req.src.cap.level m.req.src.cap.device (Zb m.ids) (m.nodes.map ZY) (Za m.cores) (m.moves.map ZU) m.base m.next.number (Za m.next.members) (Za m.next.owners) (m.state.slots.map Zg) (m.state.pending.map Zv) (m.state.marks.map Zh) (m.state.answers.map Zx) (m.state.entries.map Ze) (Zb m.state.commits) m.report.core m.report.view.number (Za m.report.view.members) (Za m.report.view.owners) (m.report.state.slots.map Zg) (m.report.state.pending.map Zv) (m.report.state.marks.map Zh) (m.report.state.answers.map Zx) (m.report.state.entries.map Ze) (Zb m.report.state.commits) m.report.ready m.report.next.number (Za m.report.next.members) (Za m.report.next.owners) (m.report.proposal.slots.map Zg) (m.report.proposal.pending.map Zv) (m.report.proposal.marks.map Zh) (m.report.proposal.answers.map Zx) (m.report.proposal.entries.map Ze) (Zb m.report.proposal.commits)
def sel (b:Nat→Bool) (m:Msg):Msg:=⟨m.kind,m.view,m.frm,m.to,if b 8=true then m.round else 0,if b 0=true then m.region else 0,if b 6=true then m.slot else 0,if b 2=true then m.op else zid,if b 3=true then m.err else 0,if b 4=true then m.settled else false,if b 1=true then m.req else Ja,if b 7=true then m.ids else [],if b 5=true then m.nodes else [],if b 9=true then m.cores else [],if b 14=true then m.moves else [],if b 11=true then m.base else 0,if b 12=true then m.next else ZH,if b 13=true then m.state else Zl,if b 10=true then m.report else Zn⟩
theorem JU (b:Nat→Bool) {m:Msg} (h:m.Fits):(sel b m).Fits:=by
 refine ⟨?_,?_,?_,?_,?_,?_,?_,?_,?_⟩
 ·show (if b 1=true then m.req else Ja).src.path.length < 2^63
  cases b 1<;>first | exact h.req | (show ([] : List Id).length < 2^63;simp)
 ·show (if b 7=true then m.ids else []).length < 2^63
  cases b 7<;>first | exact h.ids | (show ([] : List Id).length < 2^63;simp)
 ·show (if b 5=true then m.nodes else []).length < 2^63
  cases b 5<;>first | exact h.nodes | (show ([] : List Yz).length < 2^63;simp)
 ·show ∀ x∈(if b 5=true then m.nodes else []),x.path.length < 2^63
  cases b 5<;>first | exact h.node | (intro x hx;cases hx)
 ·show (if b 9=true then m.cores else []).length < 2^63
  cases b 9<;>first | exact h.cores | (show ([] : List Int).length < 2^63;simp)
 ·show (if b 14=true then m.moves else []).length < 2^63
  cases b 14<;>first | exact h.moves | (show ([] : List ZeG).length < 2^63;simp)
 ·show (if b 12=true then m.next else ZH).Fits
  cases b 12<;>first | exact h.next | exact ⟨by simp [ZH],by simp [ZH]⟩
 ·show (if b 13=true then m.state else Zl).Fits
  cases b 13<;>first | exact h.state | exact ⟨by simp [Zl],by simp [Zl],by simp [Zl],by simp [Zl],by simp [Zl],by simp [Zl],by simp [Zl],by simp [Zl],by simp [Zl]⟩
 ·show (if b 10=true then m.report else Zn).Fits
  cases b 10<;>first | exact h.report | exact ⟨⟨by simp [Zn,ZH],by simp [Zn,ZH]⟩,⟨by simp [Zn,Zl],by simp [Zn,Zl],by simp [Zn,Zl],by simp [Zn,Zl],by simp [Zn,Zl],by simp [Zn,Zl],by simp [Zn,Zl],by simp [Zn,Zl],by simp [Zn,Zl]⟩,⟨by simp [Zn,ZH],by simp [Zn,ZH]⟩,⟨by simp [Zn,Zl],by simp [Zn,Zl],by simp [Zn,Zl],by simp [Zn,Zl],by simp [Zn,Zl],by simp [Zn,Zl],by simp [Zn,Zl],by simp [Zn,Zl],by simp [Zn,Zl]⟩⟩
theorem J2 (b:Nat→Bool) (m:Msg):Zpd m (sel b m)=(List.range 15).all (fun g=>b g||zf m g):=by
 have k0:(!cop .neq m.kind (sel b m).kind)=true:=by simp [sel,cop]
 have k1:(!cop .neq m.view (sel b m).view)=true:=by simp [sel,cop]
 have k2:(!cop .neq m.frm (sel b m).frm)=true:=by simp [sel,cop]
 have k3:(!cop .neq m.to (sel b m).to)=true:=by simp [sel,cop]
 have e8:(!cop .neq m.round (sel b m).round)=(b 8||zf m 8):=by
  show (!cop .neq m.round (if b 8=true then m.round else 0))=(b 8||decide (m.round=0))
  cases b 8 with
  | true => simp [cop]
  | false => rw [Zk]; simp [cop]
 have e0:(!cop .neq m.region (sel b m).region)=(b 0||zf m 0):=by
  show (!cop .neq m.region (if b 0=true then m.region else 0))=(b 0||decide (m.region=0))
  cases b 0 with
  | true => simp [cop]
  | false => rw [Zk]; simp [cop]
 have e6:(!cop .neq m.slot (sel b m).slot)=(b 6||zf m 6):=by
  show (!cop .neq m.slot (if b 6=true then m.slot else 0))=(b 6||decide (m.slot=0))
  cases b 6 with
  | true => simp [cop]
  | false => rw [Zk]; simp [cop]
 have e3:(!cop .neq m.err (sel b m).err)=(b 3||zf m 3):=by
  show (!cop .neq m.err (if b 3=true then m.err else 0))=(b 3||decide (m.err=0))
  cases b 3 with
  | true => simp [cop]
  | false => rw [Zk]; simp [cop]
 have e11:(!cop .neq m.base (sel b m).base)=(b 11||zf m 11):=by
  show (!cop .neq m.base (if b 11=true then m.base else 0))=(b 11||decide (m.base=0))
  cases b 11 with
  | true => simp [cop]
  | false => rw [Zk]; simp [cop]
 have e2:(!(!((cop .eql m.op.core (sel b m).op.core)&&((cop .eql m.op.op (sel b m).op.op)&&((cop .eql m.op.part (sel b m).op.part)&&true)))))=(b 2||zf m 2):=by
  rw [Bool.not_not]
  show ((cop .eql m.op.core (if b 2=true then m.op else zid).core)&&((cop .eql m.op.op (if b 2=true then m.op else zid).op)&&((cop .eql m.op.part (if b 2=true then m.op else zid).part)&&true)))=(b 2||decide (m.op=zid))
  cases b 2 with
  | true => simp [cop]
  | false => rw [Zk, Bool.false_or, decide_eq_true_eq]; exact Y7 _ _ _
 have e4:(!(!(m.settled == (sel b m).settled)))=(b 4||zf m 4):=by
  show (!(!(m.settled == (if b 4=true then m.settled else false))))=(b 4||!m.settled)
  cases b 4<;>cases m.settled<;>rfl
 have e1:Zay m.req (sel b m).req=(b 1||zf m 1):=by
  show Zay m.req (if b 1=true then m.req else Ja)=(b 1||Zrz m.req)
  cases b 1 with
  | true => exact Zet _
  | false => exact Zma _
 have e7:decide (m.ids=(sel b m).ids)=(b 7||zf m 7):=by
  show decide (m.ids=(if b 7=true then m.ids else []))=(b 7||decide (m.ids.length=0))
  cases b 7<;>simp
 have e5:Yl Vk m.nodes (sel b m).nodes=(b 5||zf m 5):=by
  show Yl Vk m.nodes (if b 5=true then m.nodes else [])=(b 5||decide (m.nodes.length=0))
  cases b 5 with
  | true => exact Yt _ Wz _
  | false => exact YC _ _
 have e9:Yl Zb3 m.cores (sel b m).cores=(b 9||zf m 9):=by
  show Yl Zb3 m.cores (if b 9=true then m.cores else [])=(b 9||decide (m.cores.length=0))
  cases b 9 with
  | true => exact Yt _ (fun a => by simp [Zb3]) _
  | false => exact YC _ _
 have e14:Yl ZbJ m.moves (sel b m).moves=(b 14||zf m 14):=by
  show Yl ZbJ m.moves (if b 14=true then m.moves else [])=(b 14||decide (m.moves.length=0))
  cases b 14 with
  | true => exact Yt _ (fun a => by simp [ZbJ]) _
  | false => exact YC _ _
 have e12:Zd6 m.next (sel b m).next=(b 12||zf m 12):=by
  show Zd6 m.next (if b 12=true then m.next else ZH)=(b 12||ZbX m.next)
  cases b 12 with
  | true => exact Zeq _
  | false => exact Zbr _
 have e13:WT m.state (sel b m).state=(b 13||zf m 13):=by
  show WT m.state (if b 13=true then m.state else Zl)=(b 13||Wb m.state)
  cases b 13 with
  | true => exact ZcY _
  | false => exact W9 _
 have e10:V3 m.report (sel b m).report=(b 10||zf m 10):=by
  show V3 m.report (if b 10=true then m.report else Zn)=(b 10||Wk m.report)
  cases b 10 with
  | true => exact ZgZ _
  | false => exact Zgl _
 unfold Zpd
 rw [k0,k1,k2,k3,e8,e0,e6,e2,e3,e4,e11,e1,e7,e5,e9,e14,e12,e13,e10]
 show _=((b 0||zf m 0)&&((b 1||zf m 1)&&((b 2||zf m 2)&&((b 3||zf m 3)&&((b 4||zf m 4)&&((b 5||zf m 5)&&((b 6||zf m 6)&&((b 7||zf m 7)&&((b 8||zf m 8)&&((b 9||zf m 9)&&((b 10||zf m 10)&&((b 11||zf m 11)&&((b 12||zf m 12)&&((b 13||zf m 13)&&((b 14||zf m 14)&&true)))))))))))))))
 simp only [Bool.true_and,Bool.and_true]
 ac_rfl
theorem Zsp:ZiY false=Vw:=by funext i;simp [ZiY]
theorem JG {n:Nat} {m:Msg} (h:rest n m=true) (g:Nat) (hg:g < 15) (hc:(kf n).contains g=false):zf m g=true:=by
 have this:((kf n).contains g||zf m g)=true:=(List.all_eq_true.1 h) g (List.mem_range.2 hg)
 rwa [hc,Bool.false_or] at this
theorem Jm {m:Msg} (h:zf m 5=true):m.nodes.all ZD=true:=by
 have h0:m.nodes.length=0:=of_decide_eq_true h
 rw [List.length_eq_zero_iff.1 h0];rfl
theorem Ws {m:Msg} (h:zf m 0=true):Z5 m.region=true:=by
 have h0:m.region=0:=of_decide_eq_true h
 rw [h0];rfl
theorem ZA9 (m:Msg) (h:m.Fits) (hk:m.kind=1) (h1:JA m.view=true) (h2:Zs m.frm=true) (h3:Zs m.to=true):G10 m=some ((kf 1).all (Zi m)&&rest 1 m):=by
 have L:∀ ok,G10L m m.kind m.view m.frm m.to 0 m.region 0 0 0 0 0 false m.req.id.core m.req.id.op m.req.id.part m.req.call.kind m.req.call.slot m.req.call.dest m.req.call.core m.req.call.mask m.req.call.object m.req.call.bits m.req.call.level m.req.call.offset m.req.call.count m.req.call.index m.req.call.addr m.req.region m.req.width m.req.src.id.core m.req.src.id.op m.req.src.id.part (Zb m.req.src.path) m.req.src.cap.kind m.req.src.cap.base m.req.src.cap.bits m.req.src.cap.rights m.req.src.cap.width m.req.src.cap.level m.req.src.cap.device E0 E0 E0 E0 0 0 E0 E0 E0 E0 E0 E0 E0 E0 0 0 E0 E0 E0 E0 E0 E0 E0 E0 false 0 E0 E0 E0 E0 E0 E0 E0 E0 ok 0=some (ok&&(m.nodes.all ZD&&(Z5 m.region&&rest 1 m))):=fun ok=>by
  have q:=l16 m (sel (fun g=>(kf 1).contains g) m) h (JU _ h) m.nodes.length 0 Zr ok (by omega) (by have:=J5 h.nodes;omega)
  rw [List.drop_zero,J2] at q
  exact q
 unfold G10
 rw [Yy,if_neg (show ¬ (cop .lss m.kind 1)=true by simp only [CQ];omega),if_neg (show ¬ (cop .gtr m.kind 17)=true by simp only [CQ];omega),s50,Option.bind_some,h1,s51,Option.bind_some,h2,s51,Option.bind_some,h3]
 rw [if_neg (show ¬ (!true)=true by decide),if_neg (show ¬ (!true)=true by decide),if_neg (show ¬ (!true)=true by decide)]
 rw [if_pos (keq hk)]
 simp only [L,s52 _ h.req,Option.bind_some]
 cases hr:rest 1 m with
 | false =>
  simp only [Bool.and_false]
  repeat' split
  all_goals rfl
 | true =>
  have hn:=Jm (JG hr 5 (by omega) rfl)
  show _=some ((Zi m 0&&(Zi m 1&&true))&&true)
  repeat' split
  all_goals (refine congrArg some ?_;rw [Zk];simp only [Zi,JB,CQ] at * <;> grind)
theorem ZA6 (m:Msg) (h:m.Fits) (hk:m.kind=2) (h1:JA m.view=true) (h2:Zs m.frm=true) (h3:Zs m.to=true):G10 m=some ((kf 2).all (Zi m)&&rest 2 m):=by
 have L:∀ ok,G10L m m.kind m.view m.frm m.to 0 m.region 0 m.op.core m.op.op m.op.part m.err m.settled 0 0 0 0 0 0 0 0 0 0 0 0 0 0 0 0 0 0 0 0 E0 0 0 0 0 0 0 false E0 (m.nodes.map ZY) E0 E0 0 0 E0 E0 E0 E0 E0 E0 E0 E0 0 0 E0 E0 E0 E0 E0 E0 E0 E0 false 0 E0 E0 E0 E0 E0 E0 E0 E0 ok 0=some (ok&&(m.nodes.all ZD&&(Z5 m.region&&rest 2 m))):=fun ok=>by
  have q:=l16 m (sel (fun g=>(kf 2).contains g) m) h (JU _ h) m.nodes.length 0 Zr ok (by omega) (by have:=J5 h.nodes;omega)
  rw [List.drop_zero,J2] at q
  exact q
 unfold G10
 rw [Yy,if_neg (show ¬ (cop .lss m.kind 1)=true by simp only [CQ];omega),if_neg (show ¬ (cop .gtr m.kind 17)=true by simp only [CQ];omega),s50,Option.bind_some,h1,s51,Option.bind_some,h2,s51,Option.bind_some,h3]
 rw [if_neg (show ¬ (!true)=true by decide),if_neg (show ¬ (!true)=true by decide),if_neg (show ¬ (!true)=true by decide)]
 rw [if_neg (kne (show m.kind≠1 by omega))]
 rw [if_pos (keq hk)]
 simp only [L,s53,s54,List.length_map,Option.bind_some]
 cases hr:rest 2 m with
 | false =>
  simp only [Bool.and_false]
  repeat' split
  all_goals rfl
 | true =>
  show _=some ((Zi m 0&&(Zi m 2&&(Zi m 3&&(Zi m 4&&(Zi m 5&&true)))))&&true)
  repeat' split
  all_goals (refine congrArg some ?_;rw [Zk];simp only [Zi,JB,CQ] at * <;> grind)
theorem ZAq (m:Msg) (h:m.Fits) (hk:m.kind=3) (h1:JA m.view=true) (h2:Zs m.frm=true) (h3:Zs m.to=true):G10 m=some ((kf 3).all (Zi m)&&rest 3 m):=by
 have L:∀ ok,G10L m m.kind m.view m.frm m.to 0 m.region 0 m.op.core m.op.op m.op.part 0 false 0 0 0 0 0 0 0 0 0 0 0 0 0 0 0 0 0 0 0 0 E0 0 0 0 0 0 0 false E0 E0 E0 E0 0 0 E0 E0 E0 E0 E0 E0 E0 E0 0 0 E0 E0 E0 E0 E0 E0 E0 E0 false 0 E0 E0 E0 E0 E0 E0 E0 E0 ok 0=some (ok&&(m.nodes.all ZD&&(Z5 m.region&&rest 3 m))):=fun ok=>by
  have q:=l16 m (sel (fun g=>(kf 3).contains g) m) h (JU _ h) m.nodes.length 0 Zr ok (by omega) (by have:=J5 h.nodes;omega)
  rw [List.drop_zero,J2] at q
  exact q
 unfold G10
 rw [Yy,if_neg (show ¬ (cop .lss m.kind 1)=true by simp only [CQ];omega),if_neg (show ¬ (cop .gtr m.kind 17)=true by simp only [CQ];omega),s50,Option.bind_some,h1,s51,Option.bind_some,h2,s51,Option.bind_some,h3]
 rw [if_neg (show ¬ (!true)=true by decide),if_neg (show ¬ (!true)=true by decide),if_neg (show ¬ (!true)=true by decide)]
 rw [if_neg (kne (show m.kind≠1 by omega))]
 rw [if_neg (kne (show m.kind≠2 by omega))]
 rw [if_neg (kne (show m.kind≠4 by omega))]
 rw [if_neg (kne (show m.kind≠5 by omega))]
 rw [if_neg (kne (show m.kind≠6 by omega))]
 rw [if_neg (kne (show m.kind≠12 by omega))]
 rw [if_neg (kne (show m.kind≠13 by omega))]
 rw [if_neg (kne (show m.kind≠14 by omega))]
 rw [if_neg (kne (show m.kind≠15 by omega))]
 rw [if_neg (kne (show m.kind≠16 by omega))]
 rw [if_neg (kne (show m.kind≠17 by omega))]
 simp only [L,s53,Option.bind_some]
 cases hr:rest 3 m with
 | false =>
  simp only [Bool.and_false]
  repeat' split
  all_goals rfl
 | true =>
  have hn:=Jm (JG hr 5 (by omega) rfl)
  show _=some ((Zi m 0&&(Zi m 2&&true))&&true)
  repeat' split
  all_goals (refine congrArg some ?_;rw [Zk];simp only [Zi,JB,CQ] at * <;> grind)
theorem ZAr (m:Msg) (h:m.Fits) (hk:m.kind=4) (h1:JA m.view=true) (h2:Zs m.frm=true) (h3:Zs m.to=true):G10 m=some ((kf 4).all (Zi m)&&rest 4 m):=by
 have L:∀ ok,G10L m m.kind m.view m.frm m.to 0 m.region m.slot m.op.core m.op.op m.op.part 0 false 0 0 0 0 0 0 0 0 0 0 0 0 0 0 0 0 0 0 0 0 E0 0 0 0 0 0 0 false E0 (m.nodes.map ZY) E0 E0 0 0 E0 E0 E0 E0 E0 E0 E0 E0 0 0 E0 E0 E0 E0 E0 E0 E0 E0 false 0 E0 E0 E0 E0 E0 E0 E0 E0 ok 0=some (ok&&(m.nodes.all ZD&&(Z5 m.region&&rest 4 m))):=fun ok=>by
  have q:=l16 m (sel (fun g=>(kf 4).contains g) m) h (JU _ h) m.nodes.length 0 Zr ok (by omega) (by have:=J5 h.nodes;omega)
  rw [List.drop_zero,J2] at q
  exact q
 unfold G10
 rw [Yy,if_neg (show ¬ (cop .lss m.kind 1)=true by simp only [CQ];omega),if_neg (show ¬ (cop .gtr m.kind 17)=true by simp only [CQ];omega),s50,Option.bind_some,h1,s51,Option.bind_some,h2,s51,Option.bind_some,h3]
 rw [if_neg (show ¬ (!true)=true by decide),if_neg (show ¬ (!true)=true by decide),if_neg (show ¬ (!true)=true by decide)]
 rw [if_neg (kne (show m.kind≠1 by omega))]
 rw [if_neg (kne (show m.kind≠2 by omega))]
 rw [if_pos (keq hk)]
 simp only [L,s53,List.length_map,Option.bind_some]
 cases hr:rest 4 m with
 | false =>
  simp only [Bool.and_false]
  repeat' split
  all_goals rfl
 | true =>
  show _=some ((Zi m 0&&(Zi m 2&&(Zi m 6&&(Zi m 5&&true))))&&true)
  repeat' split
  all_goals (refine congrArg some ?_;rw [Zk];simp only [Zi,JB,CQ] at * <;> grind)
theorem ZB3 (m:Msg) (h:m.Fits) (hk:m.kind=5) (h1:JA m.view=true) (h2:Zs m.frm=true) (h3:Zs m.to=true):G10 m=some ((kf 5).all (Zi m)&&rest 5 m):=by
 have L:∀ ok,G10L m m.kind m.view m.frm m.to 0 m.region 0 m.op.core m.op.op m.op.part m.err false 0 0 0 0 0 0 0 0 0 0 0 0 0 0 0 0 0 0 0 0 E0 0 0 0 0 0 0 false E0 E0 E0 E0 0 0 E0 E0 E0 E0 E0 E0 E0 E0 0 0 E0 E0 E0 E0 E0 E0 E0 E0 false 0 E0 E0 E0 E0 E0 E0 E0 E0 ok 0=some (ok&&(m.nodes.all ZD&&(Z5 m.region&&rest 5 m))):=fun ok=>by
  have q:=l16 m (sel (fun g=>(kf 5).contains g) m) h (JU _ h) m.nodes.length 0 Zr ok (by omega) (by have:=J5 h.nodes;omega)
  rw [List.drop_zero,J2] at q
  exact q
 unfold G10
 rw [Yy,if_neg (show ¬ (cop .lss m.kind 1)=true by simp only [CQ];omega),if_neg (show ¬ (cop .gtr m.kind 17)=true by simp only [CQ];omega),s50,Option.bind_some,h1,s51,Option.bind_some,h2,s51,Option.bind_some,h3]
 rw [if_neg (show ¬ (!true)=true by decide),if_neg (show ¬ (!true)=true by decide),if_neg (show ¬ (!true)=true by decide)]
 rw [if_neg (kne (show m.kind≠1 by omega))]
 rw [if_neg (kne (show m.kind≠2 by omega))]
 rw [if_neg (kne (show m.kind≠4 by omega))]
 rw [if_pos (keq hk)]
 simp only [L,s53,s54,Option.bind_some]
 cases hr:rest 5 m with
 | false =>
  simp only [Bool.and_false]
  repeat' split
  all_goals rfl
 | true =>
  have hn:=Jm (JG hr 5 (by omega) rfl)
  show _=some ((Zi m 0&&(Zi m 2&&(Zi m 3&&true)))&&true)
  repeat' split
  all_goals (refine congrArg some ?_;rw [Zk];simp only [Zi,JB,CQ] at * <;> grind)
theorem ZzH (m:Msg) (h:m.Fits) (hk:m.kind=6) (h1:JA m.view=true) (h2:Zs m.frm=true) (h3:Zs m.to=true):G10 m=some ((kf 6).all (Zi m)&&rest 6 m):=by
 have L:∀ ok,G10L m m.kind m.view m.frm m.to 0 m.region 0 m.op.core m.op.op m.op.part 0 false 0 0 0 0 0 0 0 0 0 0 0 0 0 0 0 0 0 0 0 0 E0 0 0 0 0 0 0 false (Zb m.ids) E0 E0 E0 0 0 E0 E0 E0 E0 E0 E0 E0 E0 0 0 E0 E0 E0 E0 E0 E0 E0 E0 false 0 E0 E0 E0 E0 E0 E0 E0 E0 ok 0=some (ok&&(m.nodes.all ZD&&(Z5 m.region&&rest 6 m))):=fun ok=>by
  have q:=l16 m (sel (fun g=>(kf 6).contains g) m) h (JU _ h) m.nodes.length 0 Zr ok (by omega) (by have:=J5 h.nodes;omega)
  rw [List.drop_zero,J2] at q
  exact q
 unfold G10
 rw [Yy,if_neg (show ¬ (cop .lss m.kind 1)=true by simp only [CQ];omega),if_neg (show ¬ (cop .gtr m.kind 17)=true by simp only [CQ];omega),s50,Option.bind_some,h1,s51,Option.bind_some,h2,s51,Option.bind_some,h3]
 rw [if_neg (show ¬ (!true)=true by decide),if_neg (show ¬ (!true)=true by decide),if_neg (show ¬ (!true)=true by decide)]
 rw [if_neg (kne (show m.kind≠1 by omega))]
 rw [if_neg (kne (show m.kind≠2 by omega))]
 rw [if_neg (kne (show m.kind≠4 by omega))]
 rw [if_neg (kne (show m.kind≠5 by omega))]
 rw [if_pos (keq hk)]
 simp only [L,s53,s55 _ _ h.ids,ZJ,Zsp,Option.bind_some]
 cases hr:rest 6 m with
 | false =>
  simp only [Bool.and_false]
  repeat' split
  all_goals rfl
 | true =>
  have hn:=Jm (JG hr 5 (by omega) rfl)
  show _=some ((Zi m 0&&(Zi m 2&&(Zi m 7&&true)))&&true)
  repeat' split
  all_goals (refine congrArg some ?_;rw [Zk];simp only [Zi,JB,CQ] at * <;> grind)
theorem ZzP (m:Msg) (h:m.Fits) (hk:m.kind=7) (h1:JA m.view=true) (h2:Zs m.frm=true) (h3:Zs m.to=true):G10 m=some ((kf 7).all (Zi m)&&rest 7 m):=by
 have L:∀ ok,G10L m m.kind m.view m.frm m.to 0 m.region 0 m.op.core m.op.op m.op.part 0 false 0 0 0 0 0 0 0 0 0 0 0 0 0 0 0 0 0 0 0 0 E0 0 0 0 0 0 0 false E0 E0 E0 E0 0 0 E0 E0 E0 E0 E0 E0 E0 E0 0 0 E0 E0 E0 E0 E0 E0 E0 E0 false 0 E0 E0 E0 E0 E0 E0 E0 E0 ok 0=some (ok&&(m.nodes.all ZD&&(Z5 m.region&&rest 7 m))):=fun ok=>by
  have q:=l16 m (sel (fun g=>(kf 7).contains g) m) h (JU _ h) m.nodes.length 0 Zr ok (by omega) (by have:=J5 h.nodes;omega)
  rw [List.drop_zero,J2] at q
  exact q
 unfold G10
 rw [Yy,if_neg (show ¬ (cop .lss m.kind 1)=true by simp only [CQ];omega),if_neg (show ¬ (cop .gtr m.kind 17)=true by simp only [CQ];omega),s50,Option.bind_some,h1,s51,Option.bind_some,h2,s51,Option.bind_some,h3]
 rw [if_neg (show ¬ (!true)=true by decide),if_neg (show ¬ (!true)=true by decide),if_neg (show ¬ (!true)=true by decide)]
 rw [if_neg (kne (show m.kind≠1 by omega))]
 rw [if_neg (kne (show m.kind≠2 by omega))]
 rw [if_neg (kne (show m.kind≠4 by omega))]
 rw [if_neg (kne (show m.kind≠5 by omega))]
 rw [if_neg (kne (show m.kind≠6 by omega))]
 rw [if_neg (kne (show m.kind≠12 by omega))]
 rw [if_neg (kne (show m.kind≠13 by omega))]
 rw [if_neg (kne (show m.kind≠14 by omega))]
 rw [if_neg (kne (show m.kind≠15 by omega))]
 rw [if_neg (kne (show m.kind≠16 by omega))]
 rw [if_neg (kne (show m.kind≠17 by omega))]
 simp only [L,s53,Option.bind_some]
 cases hr:rest 7 m with
 | false =>
  simp only [Bool.and_false]
  repeat' split
  all_goals rfl
 | true =>
  have hn:=Jm (JG hr 5 (by omega) rfl)
  show _=some ((Zi m 0&&(Zi m 2&&true))&&true)
  repeat' split
  all_goals (refine congrArg some ?_;rw [Zk];simp only [Zi,JB,CQ] at * <;> grind)
theorem ZBb (m:Msg) (h:m.Fits) (hk:m.kind=8) (h1:JA m.view=true) (h2:Zs m.frm=true) (h3:Zs m.to=true):G10 m=some ((kf 8).all (Zi m)&&rest 8 m):=by
 have L:∀ ok,G10L m m.kind m.view m.frm m.to 0 m.region 0 m.op.core m.op.op m.op.part 0 false 0 0 0 0 0 0 0 0 0 0 0 0 0 0 0 0 0 0 0 0 E0 0 0 0 0 0 0 false E0 E0 E0 E0 0 0 E0 E0 E0 E0 E0 E0 E0 E0 0 0 E0 E0 E0 E0 E0 E0 E0 E0 false 0 E0 E0 E0 E0 E0 E0 E0 E0 ok 0=some (ok&&(m.nodes.all ZD&&(Z5 m.region&&rest 8 m))):=fun ok=>by
  have q:=l16 m (sel (fun g=>(kf 8).contains g) m) h (JU _ h) m.nodes.length 0 Zr ok (by omega) (by have:=J5 h.nodes;omega)
  rw [List.drop_zero,J2] at q
  exact q
 unfold G10
 rw [Yy,if_neg (show ¬ (cop .lss m.kind 1)=true by simp only [CQ];omega),if_neg (show ¬ (cop .gtr m.kind 17)=true by simp only [CQ];omega),s50,Option.bind_some,h1,s51,Option.bind_some,h2,s51,Option.bind_some,h3]
 rw [if_neg (show ¬ (!true)=true by decide),if_neg (show ¬ (!true)=true by decide),if_neg (show ¬ (!true)=true by decide)]
 rw [if_neg (kne (show m.kind≠1 by omega))]
 rw [if_neg (kne (show m.kind≠2 by omega))]
 rw [if_neg (kne (show m.kind≠4 by omega))]
 rw [if_neg (kne (show m.kind≠5 by omega))]
 rw [if_neg (kne (show m.kind≠6 by omega))]
 rw [if_neg (kne (show m.kind≠12 by omega))]
 rw [if_neg (kne (show m.kind≠13 by omega))]
 rw [if_neg (kne (show m.kind≠14 by omega))]
 rw [if_neg (kne (show m.kind≠15 by omega))]
 rw [if_neg (kne (show m.kind≠16 by omega))]
 rw [if_neg (kne (show m.kind≠17 by omega))]
 simp only [L,s53,Option.bind_some]
 cases hr:rest 8 m with
 | false =>
  simp only [Bool.and_false]
  repeat' split
  all_goals rfl
 | true =>
  have hn:=Jm (JG hr 5 (by omega) rfl)
  show _=some ((Zi m 0&&(Zi m 2&&true))&&true)
  repeat' split
  all_goals (refine congrArg some ?_;rw [Zk];simp only [Zi,JB,CQ] at * <;> grind)
theorem ZzO (m:Msg) (h:m.Fits) (hk:m.kind=9) (h1:JA m.view=true) (h2:Zs m.frm=true) (h3:Zs m.to=true):G10 m=some ((kf 9).all (Zi m)&&rest 9 m):=by
 have L:∀ ok,G10L m m.kind m.view m.frm m.to 0 m.region 0 m.op.core m.op.op m.op.part 0 false 0 0 0 0 0 0 0 0 0 0 0 0 0 0 0 0 0 0 0 0 E0 0 0 0 0 0 0 false E0 E0 E0 E0 0 0 E0 E0 E0 E0 E0 E0 E0 E0 0 0 E0 E0 E0 E0 E0 E0 E0 E0 false 0 E0 E0 E0 E0 E0 E0 E0 E0 ok 0=some (ok&&(m.nodes.all ZD&&(Z5 m.region&&rest 9 m))):=fun ok=>by
  have q:=l16 m (sel (fun g=>(kf 9).contains g) m) h (JU _ h) m.nodes.length 0 Zr ok (by omega) (by have:=J5 h.nodes;omega)
  rw [List.drop_zero,J2] at q
  exact q
 unfold G10
 rw [Yy,if_neg (show ¬ (cop .lss m.kind 1)=true by simp only [CQ];omega),if_neg (show ¬ (cop .gtr m.kind 17)=true by simp only [CQ];omega),s50,Option.bind_some,h1,s51,Option.bind_some,h2,s51,Option.bind_some,h3]
 rw [if_neg (show ¬ (!true)=true by decide),if_neg (show ¬ (!true)=true by decide),if_neg (show ¬ (!true)=true by decide)]
 rw [if_neg (kne (show m.kind≠1 by omega))]
 rw [if_neg (kne (show m.kind≠2 by omega))]
 rw [if_neg (kne (show m.kind≠4 by omega))]
 rw [if_neg (kne (show m.kind≠5 by omega))]
 rw [if_neg (kne (show m.kind≠6 by omega))]
 rw [if_neg (kne (show m.kind≠12 by omega))]
 rw [if_neg (kne (show m.kind≠13 by omega))]
 rw [if_neg (kne (show m.kind≠14 by omega))]
 rw [if_neg (kne (show m.kind≠15 by omega))]
 rw [if_neg (kne (show m.kind≠16 by omega))]
 rw [if_neg (kne (show m.kind≠17 by omega))]
 simp only [L,s53,Option.bind_some]
 cases hr:rest 9 m with
 | false =>
  simp only [Bool.and_false]
  repeat' split
  all_goals rfl
 | true =>
  have hn:=Jm (JG hr 5 (by omega) rfl)
  show _=some ((Zi m 0&&(Zi m 2&&true))&&true)
  repeat' split
  all_goals (refine congrArg some ?_;rw [Zk];simp only [Zi,JB,CQ] at * <;> grind)
theorem Zu3 (m:Msg) (h:m.Fits) (hk:m.kind=10) (h1:JA m.view=true) (h2:Zs m.frm=true) (h3:Zs m.to=true):G10 m=some ((kf 10).all (Zi m)&&rest 10 m):=by
 have L:∀ ok,G10L m m.kind m.view m.frm m.to 0 m.region 0 m.op.core m.op.op m.op.part 0 false 0 0 0 0 0 0 0 0 0 0 0 0 0 0 0 0 0 0 0 0 E0 0 0 0 0 0 0 false E0 E0 E0 E0 0 0 E0 E0 E0 E0 E0 E0 E0 E0 0 0 E0 E0 E0 E0 E0 E0 E0 E0 false 0 E0 E0 E0 E0 E0 E0 E0 E0 ok 0=some (ok&&(m.nodes.all ZD&&(Z5 m.region&&rest 10 m))):=fun ok=>by
  have q:=l16 m (sel (fun g=>(kf 10).contains g) m) h (JU _ h) m.nodes.length 0 Zr ok (by omega) (by have:=J5 h.nodes;omega)
  rw [List.drop_zero,J2] at q
  exact q
 unfold G10
 rw [Yy,if_neg (show ¬ (cop .lss m.kind 1)=true by simp only [CQ];omega),if_neg (show ¬ (cop .gtr m.kind 17)=true by simp only [CQ];omega),s50,Option.bind_some,h1,s51,Option.bind_some,h2,s51,Option.bind_some,h3]
 rw [if_neg (show ¬ (!true)=true by decide),if_neg (show ¬ (!true)=true by decide),if_neg (show ¬ (!true)=true by decide)]
 rw [if_neg (kne (show m.kind≠1 by omega))]
 rw [if_neg (kne (show m.kind≠2 by omega))]
 rw [if_neg (kne (show m.kind≠4 by omega))]
 rw [if_neg (kne (show m.kind≠5 by omega))]
 rw [if_neg (kne (show m.kind≠6 by omega))]
 rw [if_neg (kne (show m.kind≠12 by omega))]
 rw [if_neg (kne (show m.kind≠13 by omega))]
 rw [if_neg (kne (show m.kind≠14 by omega))]
 rw [if_neg (kne (show m.kind≠15 by omega))]
 rw [if_neg (kne (show m.kind≠16 by omega))]
 rw [if_neg (kne (show m.kind≠17 by omega))]
 simp only [L,s53,Option.bind_some]
 cases hr:rest 10 m with
 | false =>
  simp only [Bool.and_false]
  repeat' split
  all_goals rfl
 | true =>
  have hn:=Jm (JG hr 5 (by omega) rfl)
  show _=some ((Zi m 0&&(Zi m 2&&true))&&true)
  repeat' split
  all_goals (refine congrArg some ?_;rw [Zk];simp only [Zi,JB,CQ] at * <;> grind)
theorem ZwL (m:Msg) (h:m.Fits) (hk:m.kind=11) (h1:JA m.view=true) (h2:Zs m.frm=true) (h3:Zs m.to=true):G10 m=some ((kf 11).all (Zi m)&&rest 11 m):=by
 have L:∀ ok,G10L m m.kind m.view m.frm m.to 0 m.region 0 m.op.core m.op.op m.op.part 0 false 0 0 0 0 0 0 0 0 0 0 0 0 0 0 0 0 0 0 0 0 E0 0 0 0 0 0 0 false E0 E0 E0 E0 0 0 E0 E0 E0 E0 E0 E0 E0 E0 0 0 E0 E0 E0 E0 E0 E0 E0 E0 false 0 E0 E0 E0 E0 E0 E0 E0 E0 ok 0=some (ok&&(m.nodes.all ZD&&(Z5 m.region&&rest 11 m))):=fun ok=>by
  have q:=l16 m (sel (fun g=>(kf 11).contains g) m) h (JU _ h) m.nodes.length 0 Zr ok (by omega) (by have:=J5 h.nodes;omega)
  rw [List.drop_zero,J2] at q
  exact q
 unfold G10
 rw [Yy,if_neg (show ¬ (cop .lss m.kind 1)=true by simp only [CQ];omega),if_neg (show ¬ (cop .gtr m.kind 17)=true by simp only [CQ];omega),s50,Option.bind_some,h1,s51,Option.bind_some,h2,s51,Option.bind_some,h3]
 rw [if_neg (show ¬ (!true)=true by decide),if_neg (show ¬ (!true)=true by decide),if_neg (show ¬ (!true)=true by decide)]
 rw [if_neg (kne (show m.kind≠1 by omega))]
 rw [if_neg (kne (show m.kind≠2 by omega))]
 rw [if_neg (kne (show m.kind≠4 by omega))]
 rw [if_neg (kne (show m.kind≠5 by omega))]
 rw [if_neg (kne (show m.kind≠6 by omega))]
 rw [if_neg (kne (show m.kind≠12 by omega))]
 rw [if_neg (kne (show m.kind≠13 by omega))]
 rw [if_neg (kne (show m.kind≠14 by omega))]
 rw [if_neg (kne (show m.kind≠15 by omega))]
 rw [if_neg (kne (show m.kind≠16 by omega))]
 rw [if_neg (kne (show m.kind≠17 by omega))]
 simp only [L,s53,Option.bind_some]
 cases hr:rest 11 m with
 | false =>
  simp only [Bool.and_false]
  repeat' split
  all_goals rfl
 | true =>
  have hn:=Jm (JG hr 5 (by omega) rfl)
  show _=some ((Zi m 0&&(Zi m 2&&true))&&true)
  repeat' split
  all_goals (refine congrArg some ?_;rw [Zk];simp only [Zi,JB,CQ] at * <;> grind)
theorem Zvd (m:Msg) (h:m.Fits) (hk:m.kind=12) (h1:JA m.view=true) (h2:Zs m.frm=true) (h3:Zs m.to=true):G10 m=some ((kf 12).all (Zi m)&&rest 12 m):=by
 have L:∀ ok,G10L m m.kind m.view m.frm m.to m.round 0 0 0 0 0 0 false 0 0 0 0 0 0 0 0 0 0 0 0 0 0 0 0 0 0 0 0 E0 0 0 0 0 0 0 false E0 E0 (Za m.cores) E0 0 0 E0 E0 E0 E0 E0 E0 E0 E0 0 0 E0 E0 E0 E0 E0 E0 E0 E0 false 0 E0 E0 E0 E0 E0 E0 E0 E0 ok 0=some (ok&&(m.nodes.all ZD&&(Z5 m.region&&rest 12 m))):=fun ok=>by
  have q:=l16 m (sel (fun g=>(kf 12).contains g) m) h (JU _ h) m.nodes.length 0 Zr ok (by omega) (by have:=J5 h.nodes;omega)
  rw [List.drop_zero,J2] at q
  exact q
 unfold G10
 rw [Yy,if_neg (show ¬ (cop .lss m.kind 1)=true by simp only [CQ];omega),if_neg (show ¬ (cop .gtr m.kind 17)=true by simp only [CQ];omega),s50,Option.bind_some,h1,s51,Option.bind_some,h2,s51,Option.bind_some,h3]
 rw [if_neg (show ¬ (!true)=true by decide),if_neg (show ¬ (!true)=true by decide),if_neg (show ¬ (!true)=true by decide)]
 rw [if_neg (kne (show m.kind≠1 by omega))]
 rw [if_neg (kne (show m.kind≠2 by omega))]
 rw [if_neg (kne (show m.kind≠4 by omega))]
 rw [if_neg (kne (show m.kind≠5 by omega))]
 rw [if_neg (kne (show m.kind≠6 by omega))]
 rw [if_pos (keq hk)]
 simp only [L,s50,s56 _ h.cores,Option.bind_some]
 cases hr:rest 12 m with
 | false =>
  simp only [Bool.and_false]
  repeat' split
  all_goals rfl
 | true =>
  have hn:=Jm (JG hr 5 (by omega) rfl)
  have hg:=Ws (JG hr 0 (by omega) rfl)
  show _=some ((Zi m 8&&(Zi m 9&&true))&&true)
  repeat' split
  all_goals (refine congrArg some ?_;rw [Zk];simp only [Zi,JB,CQ] at * <;> grind)
theorem Zxd (m:Msg) (h:m.Fits) (hk:m.kind=13) (h1:JA m.view=true) (h2:Zs m.frm=true) (h3:Zs m.to=true):G10 m=some ((kf 13).all (Zi m)&&rest 13 m):=by
 have L:∀ ok,G10L m m.kind m.view m.frm m.to m.round 0 0 0 0 0 0 false 0 0 0 0 0 0 0 0 0 0 0 0 0 0 0 0 0 0 0 0 E0 0 0 0 0 0 0 false E0 E0 E0 E0 0 0 E0 E0 E0 E0 E0 E0 E0 E0 m.report.core m.report.view.number (Za m.report.view.members) (Za m.report.view.owners) (m.report.state.slots.map Zg) (m.report.state.pending.map Zv) (m.report.state.marks.map Zh) (m.report.state.answers.map Zx) (m.report.state.entries.map Ze) (Zb m.report.state.commits) m.report.ready m.report.next.number (Za m.report.next.members) (Za m.report.next.owners) (m.report.proposal.slots.map Zg) (m.report.proposal.pending.map Zv) (m.report.proposal.marks.map Zh) (m.report.proposal.answers.map Zx) (m.report.proposal.entries.map Ze) (Zb m.report.proposal.commits) ok 0=some (ok&&(m.nodes.all ZD&&(Z5 m.region&&rest 13 m))):=fun ok=>by
  have q:=l16 m (sel (fun g=>(kf 13).contains g) m) h (JU _ h) m.nodes.length 0 Zr ok (by omega) (by have:=J5 h.nodes;omega)
  rw [List.drop_zero,J2] at q
  exact q
 unfold G10
 rw [Yy,if_neg (show ¬ (cop .lss m.kind 1)=true by simp only [CQ];omega),if_neg (show ¬ (cop .gtr m.kind 17)=true by simp only [CQ];omega),s50,Option.bind_some,h1,s51,Option.bind_some,h2,s51,Option.bind_some,h3]
 rw [if_neg (show ¬ (!true)=true by decide),if_neg (show ¬ (!true)=true by decide),if_neg (show ¬ (!true)=true by decide)]
 rw [if_neg (kne (show m.kind≠1 by omega))]
 rw [if_neg (kne (show m.kind≠2 by omega))]
 rw [if_neg (kne (show m.kind≠4 by omega))]
 rw [if_neg (kne (show m.kind≠5 by omega))]
 rw [if_neg (kne (show m.kind≠6 by omega))]
 rw [if_neg (kne (show m.kind≠12 by omega))]
 rw [if_pos (keq hk)]
 simp only [L,s50,s57 _ h.report,Option.bind_some]
 cases hr:rest 13 m with
 | false =>
  simp only [Bool.and_false]
  repeat' split
  all_goals rfl
 | true =>
  have hn:=Jm (JG hr 5 (by omega) rfl)
  have hg:=Ws (JG hr 0 (by omega) rfl)
  show _=some ((Zi m 8&&(Zi m 10&&true))&&true)
  repeat' split
  all_goals (refine congrArg some ?_;rw [Zk];simp only [Zi,JB,CQ] at * <;> grind)
theorem Zu6 (m:Msg) (h:m.Fits) (hk:m.kind=14) (h1:JA m.view=true) (h2:Zs m.frm=true) (h3:Zs m.to=true):G10 m=some ((kf 14).all (Zi m)&&rest 14 m):=by
 have L:∀ ok,G10L m m.kind m.view m.frm m.to m.round 0 0 0 0 0 0 false 0 0 0 0 0 0 0 0 0 0 0 0 0 0 0 0 0 0 0 0 E0 0 0 0 0 0 0 false E0 E0 (Za m.cores) E0 m.base m.next.number (Za m.next.members) (Za m.next.owners) (m.state.slots.map Zg) (m.state.pending.map Zv) (m.state.marks.map Zh) (m.state.answers.map Zx) (m.state.entries.map Ze) (Zb m.state.commits) 0 0 E0 E0 E0 E0 E0 E0 E0 E0 false 0 E0 E0 E0 E0 E0 E0 E0 E0 ok 0=some (ok&&(m.nodes.all ZD&&(Z5 m.region&&rest 14 m))):=fun ok=>by
  have q:=l16 m (sel (fun g=>(kf 14).contains g) m) h (JU _ h) m.nodes.length 0 Zr ok (by omega) (by have:=J5 h.nodes;omega)
  rw [List.drop_zero,J2] at q
  exact q
 unfold G10
 rw [Yy,if_neg (show ¬ (cop .lss m.kind 1)=true by simp only [CQ];omega),if_neg (show ¬ (cop .gtr m.kind 17)=true by simp only [CQ];omega),s50,Option.bind_some,h1,s51,Option.bind_some,h2,s51,Option.bind_some,h3]
 rw [if_neg (show ¬ (!true)=true by decide),if_neg (show ¬ (!true)=true by decide),if_neg (show ¬ (!true)=true by decide)]
 rw [if_neg (kne (show m.kind≠1 by omega))]
 rw [if_neg (kne (show m.kind≠2 by omega))]
 rw [if_neg (kne (show m.kind≠4 by omega))]
 rw [if_neg (kne (show m.kind≠5 by omega))]
 rw [if_neg (kne (show m.kind≠6 by omega))]
 rw [if_neg (kne (show m.kind≠12 by omega))]
 rw [if_neg (kne (show m.kind≠13 by omega))]
 rw [if_pos (keq hk)]
 simp only [L,s50,s56 _ h.cores,s58 _ h.next.members h.next.owners,s59 _ h.state,Option.bind_some]
 cases hr:rest 14 m with
 | false =>
  simp only [Bool.and_false]
  repeat' split
  all_goals rfl
 | true =>
  have hn:=Jm (JG hr 5 (by omega) rfl)
  have hg:=Ws (JG hr 0 (by omega) rfl)
  show _=some ((Zi m 8&&(Zi m 11&&(Zi m 9&&(Zi m 12&&(Zi m 13&&true)))))&&true)
  repeat' split
  all_goals (refine congrArg some ?_;rw [Zk];simp only [Zi,JB,CQ] at * <;> grind)
theorem Zx7 (m:Msg) (h:m.Fits) (hk:m.kind=15) (h1:JA m.view=true) (h2:Zs m.frm=true) (h3:Zs m.to=true):G10 m=some ((kf 15).all (Zi m)&&rest 15 m):=by
 have L:∀ ok,G10L m m.kind m.view m.frm m.to m.round 0 0 0 0 0 0 false 0 0 0 0 0 0 0 0 0 0 0 0 0 0 0 0 0 0 0 0 E0 0 0 0 0 0 0 false E0 E0 E0 E0 0 0 E0 E0 E0 E0 E0 E0 E0 E0 0 0 E0 E0 E0 E0 E0 E0 E0 E0 false 0 E0 E0 E0 E0 E0 E0 E0 E0 ok 0=some (ok&&(m.nodes.all ZD&&(Z5 m.region&&rest 15 m))):=fun ok=>by
  have q:=l16 m (sel (fun g=>(kf 15).contains g) m) h (JU _ h) m.nodes.length 0 Zr ok (by omega) (by have:=J5 h.nodes;omega)
  rw [List.drop_zero,J2] at q
  exact q
 unfold G10
 rw [Yy,if_neg (show ¬ (cop .lss m.kind 1)=true by simp only [CQ];omega),if_neg (show ¬ (cop .gtr m.kind 17)=true by simp only [CQ];omega),s50,Option.bind_some,h1,s51,Option.bind_some,h2,s51,Option.bind_some,h3]
 rw [if_neg (show ¬ (!true)=true by decide),if_neg (show ¬ (!true)=true by decide),if_neg (show ¬ (!true)=true by decide)]
 rw [if_neg (kne (show m.kind≠1 by omega))]
 rw [if_neg (kne (show m.kind≠2 by omega))]
 rw [if_neg (kne (show m.kind≠4 by omega))]
 rw [if_neg (kne (show m.kind≠5 by omega))]
 rw [if_neg (kne (show m.kind≠6 by omega))]
 rw [if_neg (kne (show m.kind≠12 by omega))]
 rw [if_neg (kne (show m.kind≠13 by omega))]
 rw [if_neg (kne (show m.kind≠14 by omega))]
 rw [if_pos (keq hk)]
 simp only [L,s50,Option.bind_some]
 cases hr:rest 15 m with
 | false =>
  simp only [Bool.and_false]
  repeat' split
  all_goals rfl
 | true =>
  have hn:=Jm (JG hr 5 (by omega) rfl)
  have hg:=Ws (JG hr 0 (by omega) rfl)
  show _=some ((Zi m 8&&true)&&true)
  repeat' split
  all_goals (refine congrArg some ?_;rw [Zk];simp only [Zi,JB,CQ] at * <;> grind)
theorem ZvQ (m:Msg) (h:m.Fits) (hk:m.kind=16) (h1:JA m.view=true) (h2:Zs m.frm=true) (h3:Zs m.to=true):G10 m=some ((kf 16).all (Zi m)&&rest 16 m):=by
 have L:∀ ok,G10L m m.kind m.view m.frm m.to m.round 0 0 0 0 0 0 false 0 0 0 0 0 0 0 0 0 0 0 0 0 0 0 0 0 0 0 0 E0 0 0 0 0 0 0 false E0 E0 E0 E0 0 0 E0 E0 E0 E0 E0 E0 E0 E0 0 0 E0 E0 E0 E0 E0 E0 E0 E0 false 0 E0 E0 E0 E0 E0 E0 E0 E0 ok 0=some (ok&&(m.nodes.all ZD&&(Z5 m.region&&rest 16 m))):=fun ok=>by
  have q:=l16 m (sel (fun g=>(kf 16).contains g) m) h (JU _ h) m.nodes.length 0 Zr ok (by omega) (by have:=J5 h.nodes;omega)
  rw [List.drop_zero,J2] at q
  exact q
 unfold G10
 rw [Yy,if_neg (show ¬ (cop .lss m.kind 1)=true by simp only [CQ];omega),if_neg (show ¬ (cop .gtr m.kind 17)=true by simp only [CQ];omega),s50,Option.bind_some,h1,s51,Option.bind_some,h2,s51,Option.bind_some,h3]
 rw [if_neg (show ¬ (!true)=true by decide),if_neg (show ¬ (!true)=true by decide),if_neg (show ¬ (!true)=true by decide)]
 rw [if_neg (kne (show m.kind≠1 by omega))]
 rw [if_neg (kne (show m.kind≠2 by omega))]
 rw [if_neg (kne (show m.kind≠4 by omega))]
 rw [if_neg (kne (show m.kind≠5 by omega))]
 rw [if_neg (kne (show m.kind≠6 by omega))]
 rw [if_neg (kne (show m.kind≠12 by omega))]
 rw [if_neg (kne (show m.kind≠13 by omega))]
 rw [if_neg (kne (show m.kind≠14 by omega))]
 rw [if_neg (kne (show m.kind≠15 by omega))]
 rw [if_pos (keq hk)]
 simp only [L,s50,Option.bind_some]
 cases hr:rest 16 m with
 | false =>
  simp only [Bool.and_false]
  repeat' split
  all_goals rfl
 | true =>
  have hn:=Jm (JG hr 5 (by omega) rfl)
  have hg:=Ws (JG hr 0 (by omega) rfl)
  show _=some ((Zi m 8&&true)&&true)
  repeat' split
  all_goals (refine congrArg some ?_;rw [Zk];simp only [Zi,JB,CQ] at * <;> grind)
theorem Zwy (m:Msg) (h:m.Fits) (hk:m.kind=17) (h1:JA m.view=true) (h2:Zs m.frm=true) (h3:Zs m.to=true):G10 m=some ((kf 17).all (Zi m)&&rest 17 m):=by
 have L:∀ ok,G10L m m.kind m.view m.frm m.to 0 0 0 0 0 0 0 false 0 0 0 0 0 0 0 0 0 0 0 0 0 0 0 0 0 0 0 0 E0 0 0 0 0 0 0 false E0 E0 (Za m.cores) (m.moves.map ZU) 0 0 E0 E0 E0 E0 E0 E0 E0 E0 0 0 E0 E0 E0 E0 E0 E0 E0 E0 false 0 E0 E0 E0 E0 E0 E0 E0 E0 ok 0=some (ok&&(m.nodes.all ZD&&(Z5 m.region&&rest 17 m))):=fun ok=>by
  have q:=l16 m (sel (fun g=>(kf 17).contains g) m) h (JU _ h) m.nodes.length 0 Zr ok (by omega) (by have:=J5 h.nodes;omega)
  rw [List.drop_zero,J2] at q
  exact q
 unfold G10
 rw [Yy,if_neg (show ¬ (cop .lss m.kind 1)=true by simp only [CQ];omega),if_neg (show ¬ (cop .gtr m.kind 17)=true by simp only [CQ];omega),s50,Option.bind_some,h1,s51,Option.bind_some,h2,s51,Option.bind_some,h3]
 rw [if_neg (show ¬ (!true)=true by decide),if_neg (show ¬ (!true)=true by decide),if_neg (show ¬ (!true)=true by decide)]
 rw [if_neg (kne (show m.kind≠1 by omega))]
 rw [if_neg (kne (show m.kind≠2 by omega))]
 rw [if_neg (kne (show m.kind≠4 by omega))]
 rw [if_neg (kne (show m.kind≠5 by omega))]
 rw [if_neg (kne (show m.kind≠6 by omega))]
 rw [if_neg (kne (show m.kind≠12 by omega))]
 rw [if_neg (kne (show m.kind≠13 by omega))]
 rw [if_neg (kne (show m.kind≠14 by omega))]
 rw [if_neg (kne (show m.kind≠15 by omega))]
 rw [if_neg (kne (show m.kind≠16 by omega))]
 rw [if_pos (keq hk)]
 simp only [L,s56 _ h.cores,s60 _ h.moves,Option.bind_some]
 cases hr:rest 17 m with
 | false =>
  simp only [Bool.and_false]
  repeat' split
  all_goals rfl
 | true =>
  have hn:=Jm (JG hr 5 (by omega) rfl)
  have hg:=Ws (JG hr 0 (by omega) rfl)
  show _=some ((Zi m 9&&(Zi m 14&&true))&&true)
  repeat' split
  all_goals (refine congrArg some ?_;rw [Zk];simp only [Zi,JB,CQ] at * <;> grind)
theorem ZB8 (m:Msg) (h:m.Fits):G10 m=some (Jn m):=by
 unfold Jn headOk
 by_cases hk:1≤m.kind∧m.kind≤17
 ·rw [show kindOk m.kind=true from decide_eq_true hk]
  cases h1:JA m.view with
  | false =>
   unfold G10
   rw [Yy,if_neg (show ¬ (cop .lss m.kind 1)=true by simp only [CQ];omega),if_neg (show ¬ (cop .gtr m.kind 17)=true by simp only [CQ];omega),s50,Option.bind_some,h1]
   rfl
  | true =>
   cases h2:Zs m.frm with
   | false =>
    unfold G10
    rw [Yy,if_neg (show ¬ (cop .lss m.kind 1)=true by simp only [CQ];omega),if_neg (show ¬ (cop .gtr m.kind 17)=true by simp only [CQ];omega),s50,Option.bind_some,h1,s51,Option.bind_some,h2]
    rfl
   | true =>
    cases h3:Zs m.to with
    | false =>
     unfold G10
     rw [Yy,if_neg (show ¬ (cop .lss m.kind 1)=true by simp only [CQ];omega),if_neg (show ¬ (cop .gtr m.kind 17)=true by simp only [CQ];omega),s50,Option.bind_some,h1,s51,Option.bind_some,h2,s51,Option.bind_some,h3]
     rfl
    | true =>
     rcases (show m.kind=1∨m.kind=2∨m.kind=3∨m.kind=4∨m.kind=5∨m.kind=6∨m.kind=7∨m.kind=8∨m.kind=9∨m.kind=10∨m.kind=11∨m.kind=12∨m.kind=13∨m.kind=14∨m.kind=15∨m.kind=16∨m.kind=17 by omega) with e | e | e | e | e | e | e | e | e | e | e | e | e | e | e | e | e
     ·rw [ZA9 m h e h1 h2 h3,e];rfl
     ·rw [ZA6 m h e h1 h2 h3,e];rfl
     ·rw [ZAq m h e h1 h2 h3,e];rfl
     ·rw [ZAr m h e h1 h2 h3,e];rfl
     ·rw [ZB3 m h e h1 h2 h3,e];rfl
     ·rw [ZzH m h e h1 h2 h3,e];rfl
     ·rw [ZzP m h e h1 h2 h3,e];rfl
     ·rw [ZBb m h e h1 h2 h3,e];rfl
     ·rw [ZzO m h e h1 h2 h3,e];rfl
     ·rw [Zu3 m h e h1 h2 h3,e];rfl
     ·rw [ZwL m h e h1 h2 h3,e];rfl
     ·rw [Zvd m h e h1 h2 h3,e];rfl
     ·rw [Zxd m h e h1 h2 h3,e];rfl
     ·rw [Zu6 m h e h1 h2 h3,e];rfl
     ·rw [Zx7 m h e h1 h2 h3,e];rfl
     ·rw [ZvQ m h e h1 h2 h3,e];rfl
     ·rw [Zwy m h e h1 h2 h3,e];rfl
 ·unfold G10
  rw [show kindOk m.kind=false from decide_eq_false hk,Yy]
  by_cases hl:m.kind < 1
  ·rw [if_pos (show (cop .lss m.kind 1)=true by simp only [CQ];omega)];rfl
  ·rw [if_neg (show ¬ (cop .lss m.kind 1)=true by simp only [CQ];omega),if_pos (show (cop .gtr m.kind 17)=true by simp only [CQ];omega)];rfl
theorem s16 (m:Msg) (h:m.Fits):g16 m.kind m.view m.frm m.to m.round m.region m.slot m.op.core m.op.op m.op.part m.err m.settled m.req.id.core m.req.id.op m.req.id.part m.req.call.kind m.req.call.slot m.req.call.dest m.req.call.core m.req.call.mask m.req.call.object m.req.call.bits m.req.call.level m.req.call.offset m.req.call.count m.req.call.index m.req.call.addr m.req.region m.req.width m.req.src.id.core m.req.src.id.op m.req.src.id.part (Zb m.req.src.path) m.req.src.cap.kind m.req.src.cap.base m.req.src.cap.bits m.req.src.cap.rights m.req.src.cap.width m.req.src.cap.level m.req.src.cap.device (Zb m.ids) (m.nodes.map ZY) (Za m.cores) (m.moves.map ZU) m.base m.next.number (Za m.next.members) (Za m.next.owners) (m.state.slots.map Zg) (m.state.pending.map Zv) (m.state.marks.map Zh) (m.state.answers.map Zx) (m.state.entries.map Ze) (Zb m.state.commits) m.report.core m.report.view.number (Za m.report.view.members) (Za m.report.view.owners) (m.report.state.slots.map Zg) (m.report.state.pending.map Zv) (m.report.state.marks.map Zh) (m.report.state.answers.map Zx) (m.report.state.entries.map Ze) (Zb m.report.state.commits) m.report.ready m.report.next.number (Za m.report.next.members) (Za m.report.next.owners) (m.report.proposal.slots.map Zg) (m.report.proposal.pending.map Zv) (m.report.proposal.marks.map Zh) (m.report.proposal.answers.map Zx) (m.report.proposal.entries.map Ze) (Zb m.report.proposal.commits)=some (Jn m):=ZB8 m h
end Go.Proofs.YtjldbnbdcmfbmaaGreat
end

section
namespace Go.Proofs.YtjldbnbdcmfbmaaGreat
open Go Go.AM
set_option linter.unusedSimpArgs false
set_option linter.unusedVariables false
set_option maxRecDepth 100000
theorem Zso {α:Type} {F:Nat→LL→Int→Option LL} (l:List α) (f:α→LL) (hn:l.length < 2^63)
  (step:∀ (k i:Nat) (hi:i < l.length),F (k+1) ((l.take i).flatMap f) (i:Int)=F k ((l.take i).flatMap f++f l[i]) ((i+1:Nat):Int))
  (last:∀ (k:Nat) (acc:LL) (i:Nat),l.length≤i→F (k+1) acc (i:Int)=some acc):F Zr [] 0=some (l.flatMap f):=by
 have key:∀ (j i fuel:Nat),l.length≤i+j→j < fuel→F fuel ((l.take i).flatMap f) (i:Int)=some (l.flatMap f):=by
  intro j
  induction j with
  | zero =>
   intro i fuel h hf
   obtain ⟨q,rfl⟩:∃ q,fuel=q+1:=⟨fuel-1,by omega⟩
   rw [last q _ i (by omega),List.take_of_length_le (by omega)]
  | succ j ih =>
   intro i fuel h hf
   obtain ⟨q,rfl⟩:∃ q,fuel=q+1:=⟨fuel-1,by omega⟩
   by_cases hi:i < l.length
   ·have e:(l.take i).flatMap f++f l[i]=(l.take (i+1)).flatMap f:=by
     rw [List.take_add_one,List.getElem?_eq_getElem hi,Option.toList_some,List.flatMap_append,List.flatMap_singleton]
    rw [step q i hi,e]
    exact ih (i+1) q (by omega) (by omega)
   ·rw [last q _ i (by omega),List.take_of_length_le (by omega)]
 exact key l.length 0 Zr (by omega) (by have:=J5 hn;omega)
theorem Zkk {α:Type} (f:α→List AV) (l:List α):l.flatMap (fun x=>[f x])=l.map f:=by
 induction l with
 | nil => rfl
 | cons a r ih => rw [List.flatMap_cons, ih, List.map_cons]; rfl
theorem ZC {a b:LL} {k:Nat} (h:a.length+b.length≤4096) (hk:k≤10000):Jw a b k:=by
 unfold Jw Yc
 have:(a.length+b.length)*(k+1)≤4096*10001:=Nat.mul_le_mul h (by omega)
 omega
theorem s76 (l:List Id) (h:l.length≤64):g76 (Zb l)=some (Zb l):=by
 rw [ZxU]
 exact Zj (ZC (by rw [ZJ];simp;omega) (by omega)) _
theorem s25 (n:Yz) (h:n.path.length≤64):g25 n.id.core n.id.op n.id.part (Zb n.path) n.cap.kind n.cap.base n.cap.bits n.cap.rights n.cap.width n.cap.level n.cap.device=some (Zhg n):=by
 rw [ZvD,s76 _ h];rfl
def Zpq (v:V7):List AV:=[I v.number,.slice false 1 (Za v.members),.slice false 1 (Za v.owners)]
def Zio (r:JF):List AV:=[I r.core]++Zpq r.view++Zkp r.state++[B r.ready]++Zpq r.next++Zkp r.proposal
def ZyE (m:Msg):List AV:=[I m.kind,I m.view,I m.frm,I m.to,I m.round,I m.region,I m.slot,I m.op.core,I m.op.op,I m.op.part,I m.err,B m.settled]++Zv m.req++[.slice false 3 (Zb m.ids),.slice false 11 (m.nodes.map ZY),.slice false 1 (Za m.cores),.slice false 2 (m.moves.map ZU),I m.base]++Zpq m.next++Zkp m.state++Zio m.report
structure ZDw (l:List Kx):Prop where
 len:l.length≤70
 path:∀ s∈l,s.node.path.length≤20
end Go.Proofs.YtjldbnbdcmfbmaaGreat
end

section
namespace Go.Proofs.YtjldbnbdcmfbmaaGreat
open Go Go.AM
set_option linter.unusedSimpArgs false
set_option linter.unusedVariables false
set_option maxRecDepth 100000
theorem ZdK {α:Type} (f:α→List AV) (g:α→α) (l:List α) (i o:Nat) (c:List AV) (h:∀ x,l[i]? = some x→setCells (f x) o c=f (g x)):Jc (l.map f) i o c=(l.modify i g).map f:=by
 unfold Jc
 refine List.ext_getElem? fun j=>?_
 rw [List.getElem?_modify,List.getElem?_map,List.getElem?_map,List.getElem?_modify]
 cases hj:l[j]? with
 | none => rfl
 | some x =>
  by_cases hij:i=j
  ·subst hij
   simp [h x hj]
  ·simp [hij]
def ZxQ (op:Int) (s:Kx):Kx:={ s with op:=op }
theorem ZxN (acc:List Kx) (i:Nat) (op:Int):Jc (acc.map Zg) i 11 [AV.val (.int .i64 op)]=(acc.modify i (ZxQ op)).map Zg:=ZdK Zg (ZxQ op) acc i 11 _ fun _ _=>rfl
end Go.Proofs.YtjldbnbdcmfbmaaGreat
end

section
namespace Go.Proofs.YtjldbnbdcmfbmaaGreat
open Go Go.AM
set_option linter.unusedSimpArgs false
set_option linter.unusedVariables false
set_option maxRecDepth 100000
theorem ZhA {γ:Type} {F:Nat→Int→Option γ} {n:Nat} (hit:Nat→γ) (p:Nat→Bool) (hn:n < 2^63)
  (step:∀ k i:Nat,i < n→F (k+1) (i:Int)=if p i=true then some (hit i) else F k ((i+1:Nat):Int))
  (last:∀ k:Nat,F (k+1) (n:Int)=some (hit n)) (m:Nat) (hm:m≤n) (h1:∀ j,j < m→p j=false) (h2:m < n→p m=true):F Zr 0=some (hit m):=by
 have key:∀ (j i fuel:Nat),i+j=m→n-i < fuel→F fuel (i:Int)=some (hit m):=by
  intro j
  induction j with
  | zero =>
   intro i fuel h hf
   obtain ⟨q,rfl⟩:∃ q,fuel=q+1:=⟨fuel-1,by omega⟩
   have:i=m:=by omega
   subst this
   by_cases hi:i < n
   ·rw [step q i hi,if_pos (h2 hi)]
   ·have:i=n:=by omega
    subst this
    exact last q
  | succ j ih =>
   intro i fuel h hf
   obtain ⟨q,rfl⟩:∃ q,fuel=q+1:=⟨fuel-1,by omega⟩
   rw [step q i (by omega),if_neg (by rw [h1 i (by omega)];exact Bool.false_ne_true)]
   exact ih (i+1) q (by omega) (by omega)
 exact key m 0 Zr (by omega) (by have:=J5 hn;omega)
def Zfi {α:Type} (q:α→Bool):List α→Nat
 | [] => 0
 | a :: r => match q a with | true => 0 | false => Zfi q r + 1
theorem ZhK {α:Type} (q:α→Bool):∀ (l:List α),Zfi q l≤l.length
 | [] => Nat.le_refl _
 | a :: r => by
  unfold Zfi
  have:=ZhK q r
  split<;>simp only [List.length_cons]<;>omega
theorem ZjJ {α:Type} (q:α→Bool):∀ (l:List α) (j:Nat) (hj:j < l.length),j < Zfi q l→q l[j]=false
 | [], j, hj, _ => by simp at hj
 | a :: r, j, hj, h => by
  unfold Zfi at h
  split at h
  ·omega
  ·rename_i ha
   cases j with
   | zero => exact ha
   | succ j => exact ZjJ q r j (by simpa using hj) (by omega)
theorem ZmJ {α:Type} (q:α→Bool):∀ (l:List α) (h:Zfi q l < l.length),q l[Zfi q l]=true
 | [], h => by simp at h
 | a :: r, h => by
  cases ha:q a with
  | true =>
   have e:Zfi q (a::r)=0:=by unfold Zfi;rw [ha]
   simp only [e]
   exact ha
  | false =>
   have e:Zfi q (a::r)=Zfi q r+1:=by rw [Zfi];rw [ha]
   have h':Zfi q r < r.length:=by rw [e] at h;simpa using h
   have:=ZmJ q r h'
   simp only [e]
   exact this
def Zjx (n m:Nat):Int:=if m < n then (m:Int) else -1
theorem ZjP (n m:Nat):cop .geq (Zjx n m) 0=decide (m < n):=by
 unfold Zjx
 rw [Zk]
 split<;>simp only [CQ]<;>constructor<;>intro<;>first | omega | simp_all
theorem Zjw {n m:Nat} (h:m < n):Zjx n m=(m:Int):=if_pos h
def before (r q:Req):Bool:=ZuL r.id q.id
end Go.Proofs.YtjldbnbdcmfbmaaGreat
end

section
namespace Go.Proofs.YtjldbnbdcmfbmaaGreat
open Go Go.AM
set_option linter.unusedSimpArgs false
set_option linter.unusedVariables false
set_option maxRecDepth 100000
def ZeM (s:Kx):Bool:=decide (s.node.id=zid)
theorem Zox (s:Kx):((cop .eql s.node.id.core 0)&&((cop .eql s.node.id.op 0)&&((cop .eql s.node.id.part 0)&&true)))=ZeM s:=by
 rw [Zk,Y7]
 unfold ZeM
 rw [decide_eq_true_eq]
theorem s81 (s:Kx):g81 s.node.id.core s.node.id.op s.node.id.part (Zb s.node.path) s.node.cap.kind s.node.cap.base s.node.cap.bits s.node.cap.rights s.node.cap.width s.node.cap.level s.node.cap.device s.op s.lock.core s.lock.op s.lock.part=some (ZeM s):=by rw [ZnK,Zox]
def lockS (ids:List Id) (by_:Id) (s:Kx):Kx:=if ZeM s=false∧ids.contains s.node.id=true then { s with lock:=by_ } else s
end Go.Proofs.YtjldbnbdcmfbmaaGreat
end

section
namespace Go.Proofs.YtjldbnbdcmfbmaaGreat
open Go Go.AM
set_option linter.unusedSimpArgs false
set_option linter.unusedVariables false
set_option maxRecDepth 100000
def ZA8 (n:Yz) (s:Kx):Kx:={ s with node:=n }
theorem Zi6 {n:Yz} (h:ZD n=true):n.path.length≤8:=by
 simp only [ZD,Bool.and_eq_true,decide_eq_true_eq] at h
 exact h.1.2
theorem Zo3 (l:List Kx) (i:Nat) (n:Yz):Jc (l.map Zg) i 0 (ZY n)=(l.modify i (ZA8 n)).map Zg:=ZdK Zg (ZA8 n) l i 0 _ fun _ _=>rfl
end Go.Proofs.YtjldbnbdcmfbmaaGreat
end

section
namespace Go.Proofs.YtjldbnbdcmfbmaaGreat
open Go Go.AM
set_option linter.unusedSimpArgs false
set_option linter.unusedVariables false
set_option maxRecDepth 100000
def rep (k e:Int) (m:Msg):Msg:=⟨k,0,0,m.frm,0,m.region,0,m.op,e,false,Ja,[],[],[],[],0,ZH,Zl,Zn⟩
theorem s13 (x n:Int) (h1:1≤n) (h2:n < 2^62):g13 x n=some (x % n):=by
 have e62:(2:Int)^62=4611686018427387904:=by decide
 have hm0:=Int.emod_nonneg x (show n≠0 by omega)
 have hm1:=Int.emod_lt_of_pos x (show 0 < n by omega)
 have ht:iop .rem .i64 x n=x.tmod n:=rfl
 rw [ZvF,if_neg (by simp only [CQ];omega),Zj (by omega),ht]
 have:=Int.tmod_eq_emod (a:=x) (b:=n)
 by_cases hd:0≤x∨n ∣ x
 ·rw [if_pos hd] at this
  rw [if_neg (by simp only [CQ];omega)]
  congr 1
  omega
 ·rw [if_neg hd] at this
  have habs:((n.natAbs:Nat):Int)=n:=by omega
  have hne:x % n≠0:=fun h=>hd (.inr (Int.dvd_of_emod_eq_zero h))
  rw [if_pos (by simp only [CQ];omega),JC (by omega) (by omega)]
  congr 1
  omega
end Go.Proofs.YtjldbnbdcmfbmaaGreat
end

section
namespace Go.Proofs.YtjldbnbdcmfbmaaGreat
open Go Go.AM
set_option linter.unusedSimpArgs false
set_option linter.unusedVariables false
set_option maxRecDepth 100000
structure Ztv where
 root:Bool
 src:Int
 core:Int
 slot:Int
 kind:Int
 base:Int
 bits:Int
 count:Int
 rights:Int
 copy:Bool
def Zbz (s:Ztv):List AV:=[B s.root,I s.src,I s.core,I s.slot,I s.kind,I s.base,I s.bits,I s.count,I s.rights,B s.copy]
theorem ZxG:Tryz.prog.cellsOf 84=10:=by kernel_rfl
end Go.Proofs.YtjldbnbdcmfbmaaGreat
end

section
namespace Go.Proofs.YtjldbnbdcmfbmaaGreat
open Go Go.AM
set_option linter.unusedSimpArgs false
set_option linter.unusedVariables false
set_option maxRecDepth 100000
theorem ZDx (a b:Int):ZuK a b=some (ZbW a b):=by
 rw [ZrV]
 simp only [ZyZ,Option.bind_some]
 cases h:Vt a b with
 | false => simp [ZbW, h]
 | true =>
  obtain ⟨h1,h2,h3,h4,h5⟩:=Zcr h
  have hw:IntKind.wrap .u64 b=b:=Ys (by omega) (by omega)
  simp only [Bool.not_true,Bool.false_eq_true,if_false,hw]
  rw [Zj (by omega),ZsI h]
theorem ZB0 (a b c d:Int):ZuR a b c d=some (Zxw a b c d):=by
 rw [Ztf]
 simp only [ZyZ,ZDx,Option.bind_some]
 repeat' split
 all_goals (refine congrArg some ?_;rw [Zk];simp only [Zxw,JN,J1,JV,JI,JJ,J0,JL,JK,JM,J3,JZ,JX,Bool.not_eq_true,Bool.not_eq_false,Bool.not_eq_true',Bool.not_eq_false',Bool.and_eq_true,Bool.or_eq_true,decide_eq_true_eq,decide_eq_false_iff_not,Bool.false_eq_true,Bool.true_eq_false,Option.bind_some,Option.some.injEq,false_iff,true_iff,iff_false,iff_true] at *; grind)
theorem ZFh (a b c d:Int):ZAQ a b c d=some (inB a b c d):=by
 rw [ZtJ]
 simp only [ZyZ,ZDx,Option.bind_some]
 repeat' split
 all_goals (refine congrArg some ?_;rw [Zk];simp only [inB,JN,J1,JV,JI,JJ,J0,JL,JK,JM,J3,JZ,JX,Bool.not_eq_true,Bool.not_eq_false,Bool.not_eq_true',Bool.not_eq_false',Bool.and_eq_true,Bool.or_eq_true,decide_eq_true_eq,decide_eq_false_iff_not,Bool.false_eq_true,Bool.true_eq_false,Option.bind_some,Option.some.injEq,false_iff,true_iff,iff_false,iff_true] at *; grind)
theorem s86 (k b s r w l:Int) (d:Bool) (m:Int):g86 k b s r w l d m=some (k,b,s,iop .and .i64 r m,w,l,d):=ZxI ..
end Go.Proofs.YtjldbnbdcmfbmaaGreat
end
