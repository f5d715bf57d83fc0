/- EndW8, W811a, W811b, W812a, W812d, W818a, W818b, W818c, W818d, W818e, W818f, W818g, W818h, W818i, W818j, W824a, W824c, W824d, W8L23a, W8L23b, W8L23c, W8L23d, W8J11a, W8J11b, W8L23f, W8L23g, W8L23h, W8L23i: texts of the proof, put together. -/
import Derived.Test.YtjldbnbdcmfbmaaGreatRows
import Derived.Test.YtjldbnbdcmfbmaaGreatChecked
import Derived.Test.YtjldbnbdcmfbmaaGreatM4
import Derived.JoinedOf
import Derived.JoinedAt
import Derived.RowKit3
import Derived.KernelRfl
import Derived.Test.YtjldbnbdcmfbmaaGreatF8f

section
namespace Go.Proofs.YtjldbnbdcmfbmaaGreat
open Go Go.AM
set_option maxRecDepth 100000
theorem behind : ∃ ws, behindMainWord (wordsSigns Tryz.prog.initOrder.toList) = "cut".toList :: ws := by
 have h:Tryz.prog.initOrder.toList=_:=String.toList_ofList (l:=_)
 rw [h]
 exact Zio (by kernel_rfl) (by kernel_rfl) (by kernel_rfl) (by kernel_rfl) (by kernel_rfl) (by kernel_rfl)
theorem Zq3:Tryz.prog.mayEnter=true:=behind.elim fun _ h=>Go.AM.enters_of h (by kernel_rfl) (by kernel_rfl) (by kernel_rfl)
theorem ZvO:Tryz.prog.liftsFinal=false:=behind.elim fun _ h=>Go.AM.final_of h
theorem Zrm:Tryz.prog.make=some .cut:=behind.elim fun _ h=>Go.AM.make_of h
theorem ZCM:laidOutB Tryz.prog=true:=by kernel_rfl
theorem Zhs:ownKnob Tryz.prog.godebug=none:=by kernel_rfl
def u8c (z:Int):List AV:=[AV.val (.int .u8 z)]
def Zd (l:List Int):List (List AV):=l.map u8c
def Zv (l:List Int):Prop:=∀ z∈l,0≤z∧z≤255
def Wo (z:Int):List AV:=[I z]
def Za (l:List Int):List (List AV):=l.map Wo
structure Id where
 core:Int
 op:Int
 part:Int
 deriving DecidableEq
def idc (i:Id):List AV:=[I i.core,I i.op,I i.part]
def Zb (l:List Id):List (List AV):=l.map idc
theorem ZdK {α β:Type} {f:α→β} {p:α→Prop} : ∀ (xs:List β),(∀ x∈xs,∃ a,x=f a∧p a)→∃ l:List α,xs=l.map f∧∀ a∈l,p a
 | [], _ => ⟨[], rfl, by simp⟩
 | x :: xs, h => by
  obtain ⟨a,h1,h2⟩:=h x (by simp)
  obtain ⟨l,h3,h4⟩:=ZdK xs fun y hy=>h y (by simp [hy])
  refine ⟨a::l,by rw [h1,h3];rfl,fun b hb=>?_⟩
  rcases List.mem_cons.1 hb with rfl | hb
  ·exact h2
  ·exact h4 b hb
def Zpv:List TypeId:=[3,5,22,23,50,56]
theorem Zxp (t:TypeId) (h:Zpv.contains t=true):ZbY Tryz.prog 12 t=true∧t < Tryz.prog.types.size∧Tryz.prog.readableRec t=true:=by
 have h2:Zpv.all (fun t=>ZbY Tryz.prog 12 t&&decide (t < Tryz.prog.types.size)&&Tryz.prog.readableRec t)=true:=by kernel_rfl
 rw [List.all_eq_true] at h2
 have:=h2 t (by simpa using h)
 simpa [and_assoc] using this
end Go.Proofs.YtjldbnbdcmfbmaaGreat
end

section
namespace Go.Proofs.YtjldbnbdcmfbmaaGreat
open Go Go.AM
set_option linter.unusedSimpArgs false
set_option linter.unusedVariables false
set_option maxRecDepth 100000
def VJ (k b:Int):Bool:=decide ((k=1∧6≤b∧b≤40)∨(k=2∧12≤b∧b≤40)∨(k=3∧b=12)∨(k=4∧b=6)∨(k=5∧b=10)∨(k=6∧b=16))
theorem ZEr (k b:Int):ZCd k b=some (VJ k b):=by
 rw [ZtG]
 repeat' split
 all_goals (refine congrArg some ?_;rw [Zw];simp only [VJ,CQ] at *; omega)
def ZiO (k:Int):Int:=if k=3 then 12 else if k=4 then 6 else if k=5 then 10 else if k=6 then 16 else 0
theorem ZEc (k:Int):ZCs k=some (ZiO k):=by
 rw [Zsf]
 simp only [CQ,ZiO]
 repeat' split
 all_goals first | rfl | omega
theorem ZC7 (k b:Int):Zzd k b=some (VJ k b):=by
 rw [Ztp]
 simp only [ZEc,Option.bind_some]
 repeat' split
 all_goals (refine congrArg some ?_;rw [Zw];simp only [VJ,CQ] at *; first | omega | (rcases (by omega:k=3∨k=4∨k=5∨k=6) with rfl | rfl | rfl | rfl<;>simp [ZiO]))
def ZbJ (w l:Int):Bool:=decide ((w=32∧0≤l∧l≤1)∨(w=39∧0≤l∧l≤2))
theorem ZDN (w l:Int):ZAO w l=some (ZbJ w l):=by
 rw [ZtE]
 repeat' split
 all_goals (refine congrArg some ?_;rw [Zw];simp only [ZbJ,CQ] at *; omega)
theorem ZCS (w l:Int):Zy3 w l=some (ZbJ w l):=by
 rw [ZrS]
 repeat' split
 all_goals (refine congrArg some ?_;rw [Zw];simp only [ZbJ,CQ] at *; omega)
def Ve (a b:Int):Bool:=decide (6≤b∧b≤40∧0≤a∧a % 2^b.toNat=0∧a+2^b.toNat≤1099511627776)
theorem ZkF {b:Int} (h:b≤40):(2:Int)^b.toNat≤1099511627776:=by
 have:=ZfC (m:=b.toNat) (n:=40) (by omega)
 have e:(2:Int)^40=1099511627776:=by decide
 omega
theorem ZiS {a:Int} {n:Nat} (h:0≤a):iop .rem .i64 a (2^n)=a % 2^n:=Int.tmod_eq_emod_of_nonneg h
theorem Zwi {b:Int} (h:b≤40):iop .sub .i64 1099511627776 (2^b.toNat)=1099511627776-2^b.toNat:=by
 have:=ZkF h
 have:=JM b.toNat
 exact KO (by omega) (by omega)
theorem ZEA (a b:Int):ZAZ a b=some (Ve a b):=by
 have hp:=JM b.toNat
 rw [Zsk]
 by_cases h1:6≤b∧b≤40∧0≤a
 ·obtain ⟨h1,h2,h3⟩:=h1
  have hs:iop .shl .i64 1 b=2^b.toNat:=ZuM (by omega)
  have hr:Zz ((0:Int)≤b)=fun (x:Option Bool)=>x:=funext fun x=>Zj (by omega) x
  have hn:Zz (((2:Int)^b.toNat)≠0)=fun (x:Option Bool)=>x:=funext fun x=>Zj (by omega) x
  simp only [hs,hr,hn,ZiS h3,Zwi h2]
  repeat' split
  all_goals (refine congrArg some ?_;rw [Zw];simp only [Ve,CQ] at *; omega)
 ·have hf:Ve a b=false:=by simp only [Ve,decide_eq_false_iff_not];omega
  rw [hf]
  repeat' split
  all_goals first | rfl | (exfalso;simp only [CQ] at *; omega)
theorem ZyS (a b:Int):ZqS a b=some (Ve a b):=by
 have hp:=JM b.toNat
 rw [ZsB]
 by_cases h1:6≤b∧b≤40∧0≤a
 ·obtain ⟨h1,h2,h3⟩:=h1
  have hw:IntKind.wrap .u64 b=b:=JL (by omega) (by omega)
  have hs:iop .shl .i64 1 b=2^b.toNat:=ZuM (by omega)
  have hr:Zz ((0:Int)≤b)=fun (x:Option Bool)=>x:=funext fun x=>Zj (by omega) x
  have hn:Zz (((2:Int)^b.toNat)≠0)=fun (x:Option Bool)=>x:=funext fun x=>Zj (by omega) x
  have h40:=ZkF h2
  simp only [hw,hs,hr,hn,ZiS h3]
  repeat' split
  all_goals (refine congrArg some ?_;rw [Zw];simp only [Ve,CQ] at *; first | omega | (rw [JH (by omega) (by omega)] at *; omega))
 ·have hf:Ve a b=false:=by simp only [Ve,decide_eq_false_iff_not];omega
  rw [hf]
  repeat' split
  all_goals first | rfl | (exfalso;simp only [CQ] at *; omega)
def ZbR (a b:Int):Int:=if Ve a b=true then a+2^b.toNat else 0
theorem Zcj {a b:Int} (h:Ve a b=true):6≤b∧b≤40∧0≤a∧a % 2^b.toNat=0∧a+2^b.toNat≤1099511627776:=by simpa [Ve] using h
theorem Zuy {a b:Int} (h:Ve a b=true):iop .add .i64 a (iop .shl .i64 1 b)=ZbR a b:=by
 obtain ⟨h1,h2,h3,h4,h5⟩:=Zcj h
 have:=JM b.toNat
 rw [ZuM (by omega),JH (by omega) (by omega),ZbR,if_pos h]
def Zw6 (a b c d:Int):Bool:=Ve a b&&Ve c d&&decide (a < ZbR c d)&&decide (c < ZbR a b)
def inB (a b c d:Int):Bool:=Ve a b&&Ve c d&&decide (a≤c)&&decide (ZbR c d≤ZbR a b)
structure Cap where
 kind:Int
 base:Int
 bits:Int
 rights:Int
 width:Int
 level:Int
 device:Bool
theorem ZEw (k b s r w l:Int) (d:Bool):ZCE k b s r w l d=some (b,s):=ZsZ ..
theorem Zrb (k b s r w l:Int) (d:Bool):ZoE k b s r w l d=some (b,s):=Zuu ..
def Yu (c:Cap):Bool:=VJ c.kind c.bits&&Ve c.base c.bits&&decide (0≤c.rights∧c.rights≤7)&&(if c.kind=3 then ZbJ c.width c.level else decide (c.width=0∧c.level=0))&&(!c.device||decide (c.kind=1)||decide (c.kind=2))
theorem ZA3 (k b s r w l:Int) (d:Bool):Zx7 k b s r w l d=some (Yu ⟨k,b,s,r,w,l,d⟩):=by
 rw [ZsJ]
 simp only [ZEr,ZEw,ZEA,ZDN,Option.bind_some]
 repeat' split
 all_goals (refine congrArg some ?_;rw [Zw];simp only [Yu,CQ] at *; grind)
theorem ZBE (k b s r w l:Int) (d:Bool):ZvC k b s r w l d=some (Yu ⟨k,b,s,r,w,l,d⟩):=by
 rw [Zt3]
 simp only [ZC7,Zrb,ZyS,ZCS,Option.bind_some]
 repeat' split
 all_goals (refine congrArg some ?_;rw [Zw];simp only [Yu,CQ] at *; grind)
end Go.Proofs.YtjldbnbdcmfbmaaGreat
end

section
namespace Go.Proofs.YtjldbnbdcmfbmaaGreat
open Go Go.AM
set_option linter.unusedSimpArgs false
set_option linter.unusedVariables false
set_option maxRecDepth 100000
def Zn8 (obj a sz bits r w l:Int) (d:Bool) (j:Nat):List AV:=[I obj,I (a+j*sz),I bits,I r,I w,I l,B d]
def Y2 (obj a sz bits r w l:Int) (d:Bool) (n:Nat):List (List AV):=(List.range n).map (Zn8 obj a sz bits r w l d)
theorem Zgl (obj a sz bits r w l:Int) (d:Bool) (n:Nat):Y2 obj a sz bits r w l d (n+1)=Y2 obj a sz bits r w l d n++[Zn8 obj a sz bits r w l d n]:=by
 simp [Y2,List.range_succ]
theorem ZbN (obj a sz bits r w l:Int) (d:Bool) (n:Nat):(Y2 obj a sz bits r w l d n).length=n:=by simp [Y2]
theorem YR {n:Nat} (h:n < 2^64):n < ZB:=by
 have:ZB=1208925819614629174706176:=rfl
 omega
theorem ZcH {a b:List (List AV)} {k:Nat} (h:(a.length+b.length)*(k+1)≤1099511627776):Je a b k:=h
theorem ZpP {k b:Int} (h:VJ k b=true):6≤b∧b≤40:=by
 simp only [VJ,decide_eq_true_eq] at h
 omega
theorem Zoo {c:Cap} (h:Yu c=true):Ve c.base c.bits=true:=by
 simp only [Yu,Bool.and_eq_true] at h
 exact h.1.1.1.2
def Zct (c:Cap) (obj bits level width off cnt:Int):Int:=
 if Yu c=false∨c.kind≠1 then 5
 else if iop .and .i64 c.rights 2=0 then 8
 else if VJ obj bits=false∨(obj=3∧ZbJ width level=false)∨cnt < 1∨8 < cnt∨off < 0 then 1
 else if c.device=true∧obj≠1∧obj≠2 then 5
 else if off % 2^bits.toNat≠0∨2^c.bits.toNat-cnt*2^bits.toNat < off∨(obj=1∧c.bits≤bits) then 6
 else 0
def Wg (c:Cap) (obj bits level width off cnt:Int):List (List AV):=
 if Zct c obj bits level width off cnt=0 then Y2 obj (c.base+off) (2^bits.toNat) bits c.rights (if obj=3 then width else 0) (if obj=3 then level else 0) c.device cnt.toNat else []
theorem Zjs {c:Cap} {obj bits level width off cnt e:Int} (he:e≠0) (h:Zct c obj bits level width off cnt=e) :
  some (E0,e)=some (Wg c obj bits level width off cnt,Zct c obj bits level width off cnt):=by
 simp only [Wg,h,if_neg he]
theorem Zpl {c:Cap} {obj bits off cnt:Int} (hc:Yu c=true) (hs:VJ obj bits=true) (h1:1≤cnt) (h2:cnt≤8) (h3:0≤off) :
  iop .shl .i64 1 bits=2^bits.toNat∧iop .rem .i64 off (2^bits.toNat)=off % 2^bits.toNat∧iop .shl .i64 1 c.bits=2^c.bits.toNat∧iop .mul .i64 cnt (2^bits.toNat)=cnt*2^bits.toNat∧
   iop .sub .i64 (2^c.bits.toNat) (cnt*2^bits.toNat)=2^c.bits.toNat-cnt*2^bits.toNat∧(2:Int)^bits.toNat≠0∧0≤bits∧0≤c.bits∧0≤c.base∧c.base+2^c.bits.toNat≤1099511627776∧
   0 < (2:Int)^bits.toNat∧(2:Int)^bits.toNat≤1099511627776∧(2:Int)^bits.toNat≤cnt*2^bits.toNat∧0 < (2:Int)^c.bits.toNat∧bits≤40∧c.bits≤40:=by
 obtain ⟨b1,b2⟩:=ZpP hs
 obtain ⟨r1,r2,r3,r4,r5⟩:=Zcj (Zoo hc)
 have p1:=JM bits.toNat
 have p2:=JM c.bits.toNat
 have q1:=ZkF b2
 have q2:=ZkF r2
 have m1:cnt*2^bits.toNat≤8*2^bits.toNat:=Int.mul_le_mul_of_nonneg_right (by omega) (by omega)
 have m2:1*2^bits.toNat≤cnt*2^bits.toNat:=Int.mul_le_mul_of_nonneg_right (by omega) (by omega)
 refine ⟨ZuM (by omega),ZiS (by omega),ZuM (by omega),Zrp (by omega) (by omega),Zd3 (by omega) (by omega),by omega,by omega,by omega,r3,r5,p1,q1,by omega,p2,b2,r2⟩
theorem Ziy {γ:Type} {p:Prop} {_:Decidable p} (h:p):(Zz p:Option γ→Option γ)=fun x=>x:=funext fun x=>Zj h x
theorem ZoM:∃ f,ZB=f+1+1+1+1+1+1:=⟨ZB-6,by decide⟩
end Go.Proofs.YtjldbnbdcmfbmaaGreat
end

section
namespace Go.Proofs.YtjldbnbdcmfbmaaGreat
open Go Go.AM
set_option linter.unusedSimpArgs false
set_option linter.unusedVariables false
set_option maxRecDepth 100000
abbrev ZCV:List Sh:=[.int .i64,.int .i64,.int .i64]
def VA (i:Id):Bool:=decide (0≤i.core∧i.core < 32∧1≤i.op∧i.op≤1073741824∧0≤i.part∧i.part < 8)
theorem s99 (a b c:Int):g99 a b c=some (VA ⟨a,b,c⟩):=by
 rw [ZxO]
 repeat' split
 all_goals (refine congrArg some ?_;rw [Zw];simp only [VA,CQ] at *; omega)
theorem ZEJ (a:Int):ZzC a=some false:=by
 rw [Ztk]
 simp [cop]
def Zri (a b:Int):Int:=if a < b then -1 else if b < a then 1 else 0
theorem ZEb (a b:Int):Zwt a b=some (Zri a b):=by
 rw [Zse]
 simp only [ZEJ,Option.bind_some,Bool.false_eq_true,if_false]
 by_cases h1:a < b
 ·rw [if_pos (by simp only [CQ];omega),Zri,if_pos h1]
 ·by_cases h2:b < a
  ·rw [if_neg (by simp only [CQ];omega),if_pos (by simp only [CQ];omega),Zri,if_neg h1,if_pos h2]
  ·rw [if_neg (by simp only [CQ];omega),if_neg (by simp only [CQ];omega),Zri,if_neg h1,if_neg h2]
def W6 (x y z:Int):Int:=if x≠0 then x else if y≠0 then y else z
theorem ZDM (x y z:Int):ZCm (((E0++[[AV.val (.int .i64 x)]])++[[AV.val (.int .i64 y)]])++[[AV.val (.int .i64 z)]])=some (W6 x y z):=by
 obtain ⟨f,hf⟩:=ZoM
 have e:(((E0++[[AV.val (.int .i64 x)]])++[[AV.val (.int .i64 y)]])++[[AV.val (.int .i64 z)]]) = [Wo x,Wo y,Wo z]:=rfl
 have e1:iop .add .i64 0 1=1:=by decide
 have e2:iop .add .i64 1 1=2:=by decide
 have e3:iop .add .i64 2 1=3:=by decide
 have hl:(([Wo x,Wo y,Wo z] : List (List AV)).length:Int)=3:=rfl
 rw [Zs5,e,hf,hl]
 rw [ZaA,if_pos (by decide),Yq (sh:=[.int .i64]) (cs:=Wo x) (r:=x) _ (by decide) rfl rfl]
 by_cases hx:x=0
 ·rw [if_neg (by simp only [CQ];omega),e1,ZaA,if_pos (by decide),Yq (sh:=[.int .i64]) (cs:=Wo y) (r:=y) _ (by decide) rfl rfl]
  by_cases hy:y=0
  ·rw [if_neg (by simp only [CQ];omega),e2,ZaA,if_pos (by decide),Yq (sh:=[.int .i64]) (cs:=Wo z) (r:=z) _ (by decide) rfl rfl]
   by_cases hz:z=0
   ·rw [if_neg (by simp only [CQ];omega),e3,ZaA,if_neg (by decide)]
    simp [W6,hx,hy,hz]
   ·rw [if_pos (by simp only [CQ];omega)]
    simp [W6,hx,hy]
  ·rw [if_pos (by simp only [CQ];omega)]
   simp [W6,hx,hy]
 ·rw [if_pos (by simp only [CQ];omega)]
  simp [W6,hx]
theorem ZDH (a b c d e f:Int):ZAN a b c d e f=some (W6 (Zri a d) (Zri b e) (Zri c f)):=by
 rw [Zt8]
 simp only [ZEb,Option.bind_some,ZDM]
def ZuV (a b c d e f:Int):Bool:=decide (a < d∨(a=d∧(b < e∨(b=e∧c < f))))
theorem ZC4 (a b c d e f:Int):ZyJ a b c d e f=some (ZuV a b c d e f):=by
 rw [Zs8,ZDH,Option.bind_some]
 refine congrArg some ?_
 rw [Zw]
 simp only [ZuV,CQ,Zri,W6]
 repeat' split
 all_goals omega
theorem ZU (l:List Id):(Zb l).length=l.length:=by simp [Zb]
theorem Zki (l:List Id) (n:Nat):(Zb l).take n=Zb (l.take n):=by simp [Zb,List.map_take]
theorem Zvc {l:List Id} {i:Nat} {x:Id} (h:l[i]? = some x):(Zb l)[i]? = some (idc x):=by simp [Zb,h]
theorem V0 {γ:Type} {l:List Id} {i:Int} {x:Id} (k:(Int×Int×Int)→Option γ) (h0:0≤i) (h:l[i.toNat]? = some x):Zm (Zb l) i ZCV k=k (x.core,x.op,x.part):=
 Yq (sh:=ZCV) (r:=(x.core,x.op,x.part)) k h0 (Zvc h) rfl
theorem YJ (a b c d e f:Int):((cop .eql a d&&(cop .eql b e&&(cop .eql c f&&true)))=true)↔((⟨a,b,c⟩:Id)=⟨d,e,f⟩):=by
 simp only [CQ,Id.mk.injEq,and_true]
theorem ZDR {l:List Id} (hl:l.length < 2^63) (a b c:Int):∀ (j i fuel:Nat),l.length=i+j→j < fuel→∃ r,Zhl fuel (Zb l) a b c (l.length:Int) i=some r∧(0≤r↔(⟨a,b,c⟩:Id)∈l.drop i):=by
 intro j
 induction j with
 | zero =>
  intro i fuel h hf
  obtain ⟨f,rfl⟩:∃ f,fuel=f+1:=⟨fuel-1,by omega⟩
  refine ⟨-1,by rw [ZgZ,if_neg (by simp only [CQ];omega)],?_⟩
  rw [List.drop_of_length_le (by omega)]
  simp
 | succ j ih =>
  intro i fuel h hf
  obtain ⟨f,rfl⟩:∃ f,fuel=f+1:=⟨fuel-1,by omega⟩
  have hi:i < l.length:=by omega
  have hat:l[(i:Int).toNat]? = some l[i]:=by simp
  have a4:iop .add .i64 i 1=((i+1:Nat):Int):=by rw [JH (by omega) (by omega)];omega
  rw [ZgZ,if_pos (by simp only [CQ];omega),V0 _ (by omega) hat,a4,List.drop_eq_getElem_cons hi]
  by_cases he:(⟨a,b,c⟩:Id)=l[i]
  ·refine ⟨i,?_,?_⟩
   ·rw [if_pos]
    rw [YJ]
    exact he
   ·rw [List.mem_cons]
    exact ⟨fun _=>.inl he,fun _=>by omega⟩
  ·obtain ⟨r,h1,h2⟩:=ih (i+1) f (by omega) (by omega)
   refine ⟨r,?_,?_⟩
   ·rw [if_neg,h1]
    rw [YJ]
    exact he
   ·rw [h2,List.mem_cons]
    simp [he]
theorem ZD0 (l:List Id) (hl:l.length < 2^63) (a b c:Int):ZAS (Zb l) a b c=some (l.contains ⟨a,b,c⟩):=by
 obtain ⟨r,h1,h2⟩:=ZDR hl a b c l.length 0 ZB (by omega) (YR (by omega))
 rw [ZrX,Zrx,ZU]
 have h1':Zhl ZB (Zb l) a b c (l.length:Int) 0=some r:=h1
 rw [h1',Option.bind_some]
 refine congrArg some ?_
 rw [Zw]
 simp only [CQ,List.contains_iff_mem]
 rw [List.drop_zero] at h2
 exact h2
structure J4 where
 id:Id
 path:List Id
 cap:Cap
def KZ (n:J4) (i:Nat):Bool:=match n.path[i]? with | none=>true | some x=>VA x&&decide (x≠n.id)&&!(n.path.take i).contains x
def ZR (n:J4):Bool:=VA n.id&&Yu n.cap&&decide (n.path.length≤8)&&(List.range n.path.length).all (KZ n)
theorem l95 (n:J4) (hl:n.path.length < 2^63):∀ (j i fuel:Nat),n.path.length=i+j→j < fuel→
  Zpo fuel n.id.core n.id.op n.id.part (Zb n.path) n.cap.kind n.cap.base n.cap.bits n.cap.rights n.cap.width n.cap.level n.cap.device (Zb n.path) (n.path.length:Int) i=some ((List.range' i j).all (KZ n)):=by
 intro j
 induction j with
 | zero =>
  intro i fuel h hf
  obtain ⟨f,rfl⟩:∃ f,fuel=f+1:=⟨fuel-1,by omega⟩
  rw [ZkS,if_neg (by simp only [CQ];omega)]
  rfl
 | succ j ih =>
  intro i fuel h hf
  obtain ⟨f,rfl⟩:∃ f,fuel=f+1:=⟨fuel-1,by omega⟩
  have hi:i < n.path.length:=by omega
  have hat:n.path[(i:Int).toNat]? = some n.path[i]:=by simp
  have a4:iop .add .i64 i 1=((i+1:Nat):Int):=by rw [JH (by omega) (by omega)];omega
  have hp:KZ n i=(VA n.path[i]&&decide (n.path[i]≠n.id)&&!(n.path.take i).contains n.path[i]):=by
   unfold KZ
   rw [List.getElem?_eq_getElem hi]
  have hlt:(n.path.take i).length < 2^63:=by rw [List.length_take];omega
  rw [ZkS,if_pos (by simp only [CQ];omega),V0 _ (by omega) hat,a4,List.range'_succ,List.all_cons,hp]
  simp only [s99,Option.bind_some]
  cases h1:VA n.path[i] with
  | false => simp
  | true =>
   rw [if_neg (by simp)]
   by_cases h2:n.path[i]=n.id
   ·rw [if_pos (by rw [YJ];exact h2)]
    simp [h2]
   ·rw [if_neg (by rw [YJ];exact h2),Zj (by omega),Zj (by rw [ZU];omega),Int.toNat_natCast,Zki,ZD0 _ hlt,Option.bind_some]
    cases h3:(n.path.take i).contains n.path[i] with
    | true => simp
    | false =>
     rw [if_neg (by simp)]
     have:=ih (i+1) f (by omega) (by omega)
     rw [this]
     simp [h2]
theorem s95 (n:J4) (hl:n.path.length < 2^63):g95 n.id.core n.id.op n.id.part (Zb n.path) n.cap.kind n.cap.base n.cap.bits n.cap.rights n.cap.width n.cap.level n.cap.device=some (ZR n):=by
 rw [Zyr]
 simp only [s99,ZA3,Option.bind_some,ZU]
 unfold ZR
 cases h1:VA n.id with
 | false => simp [show (⟨n.id.core, n.id.op, n.id.part⟩ : Id) = n.id from rfl, h1]
 | true =>
  cases h2:Yu n.cap with
  | false => simp [show (⟨n.id.core, n.id.op, n.id.part⟩ : Id) = n.id from rfl, h1, show (⟨n.cap.kind, n.cap.base, n.cap.bits, n.cap.rights, n.cap.width, n.cap.level, n.cap.device⟩ : Cap) = n.cap from rfl, h2]
  | true =>
   rw [if_neg (by simp),if_neg (by simp)]
   by_cases h3:n.path.length≤8
   ·rw [if_neg (by simp only [CQ];omega)]
    have:=l95 n hl n.path.length 0 ZB (by omega) (YR (by omega))
    have e:(List.range' 0 n.path.length)=List.range n.path.length:=(List.range_eq_range' ..).symm
    rw [e] at this
    refine this.trans ?_
    simp [h3]
   ·rw [if_pos (by simp only [CQ];omega)]
    simp [h3]
end Go.Proofs.YtjldbnbdcmfbmaaGreat
end

section
namespace Go.Proofs.YtjldbnbdcmfbmaaGreat
open Go Go.AM
set_option linter.unusedSimpArgs false
set_option linter.unusedVariables false
set_option maxRecDepth 100000
theorem ZzS (a b c:Int):ZvI a b c=some (VA ⟨a,b,c⟩):=by
 rw [Zsv]
 repeat' split
 all_goals (refine congrArg some ?_;rw [Zw];simp only [VA,CQ] at *; omega)
theorem l78 {l:List Id} (hl:l.length < 2^63) (a b c:Int):∀ (j i fuel:Nat),l.length=i+j→j < fuel→Zpm fuel (Zb l) a b c i=some ((l.drop i).contains ⟨a,b,c⟩):=by
 intro j
 induction j with
 | zero =>
  intro i fuel h hf
  obtain ⟨f,rfl⟩:∃ f,fuel=f+1:=⟨fuel-1,by omega⟩
  rw [Zkv,if_neg (by simp only [CQ,ZU];omega),List.drop_of_length_le (by omega)]
  rfl
 | succ j ih =>
  intro i fuel h hf
  obtain ⟨f,rfl⟩:∃ f,fuel=f+1:=⟨fuel-1,by omega⟩
  have hi:i < l.length:=by omega
  have hat:l[(i:Int).toNat]? = some l[i]:=by simp
  have a4:iop .add .i64 i 1=((i+1:Nat):Int):=by rw [JH (by omega) (by omega)];omega
  rw [Zkv,if_pos (by simp only [CQ,ZU];omega),V0 _ (by omega) hat,a4,List.drop_eq_getElem_cons hi,List.contains_cons]
  by_cases he:l[i]=(⟨a,b,c⟩:Id)
  ·rw [if_pos (by rw [YJ];exact he)]
   simp [he]
  ·rw [if_neg (by rw [YJ];exact he),ih (i+1) f (by omega) (by omega)]
   have:((⟨a,b,c⟩:Id) == l[i])=false:=by simp;exact fun h=>he h.symm
   rw [this,Bool.false_or]
theorem s78 (l:List Id) (hl:l.length < 2^63) (a b c:Int):g78 (Zb l) a b c=some (l.contains ⟨a,b,c⟩):=by
 have:=l78 hl a b c l.length 0 ZB (by omega) (YR (by omega))
 rw [Zxy]
 exact this
def Zbt (n:J4) (i:Nat):Bool:=match n.path[i]? with | none=>true | some x=>VA x&&!(n.path.take i).contains x
theorem Zlk (n:J4):ZR n=(VA n.id&&Yu n.cap&&decide (n.path.length≤8)&&(!n.path.contains n.id&&(List.range n.path.length).all (Zbt n))):=by
 unfold ZR
 congr 1
 rw [Zw]
 simp only [Bool.and_eq_true,List.all_eq_true,List.mem_range,Bool.not_eq_true',← Bool.not_eq_true,List.contains_iff_mem]
 constructor
 ·intro h
  refine ⟨fun hc=>?_,fun i hi=>?_⟩
  ·obtain ⟨i,hi⟩:=List.mem_iff_getElem?.1 hc
   have:=h i (List.getElem?_eq_some_iff.1 hi).1
   unfold KZ at this
   rw [hi] at this
   simp at this
  ·have:=h i hi
   unfold KZ at this
   unfold Zbt
   rw [List.getElem?_eq_getElem hi] at this ⊢
   simp only [Bool.and_eq_true] at this ⊢
   exact ⟨this.1.1,this.2⟩
 ·intro ⟨h1,h2⟩ i hi
  have:=h2 i hi
  unfold Zbt at this
  unfold KZ
  rw [List.getElem?_eq_getElem hi] at this ⊢
  simp only [Bool.and_eq_true,decide_eq_true_eq] at this ⊢
  exact ⟨⟨this.1,fun he=>h1 (he ▸ List.getElem_mem hi)⟩,this.2⟩
theorem l61 (n:J4) (hl:n.path.length < 2^63):∀ (j i fuel:Nat),n.path.length=i+j→j < fuel→
  Zqq fuel n.id.core n.id.op n.id.part (Zb n.path) n.cap.kind n.cap.base n.cap.bits n.cap.rights n.cap.width n.cap.level n.cap.device i=some ((List.range' i j).all (Zbt n)):=by
 intro j
 induction j with
 | zero =>
  intro i fuel h hf
  obtain ⟨f,rfl⟩:∃ f,fuel=f+1:=⟨fuel-1,by omega⟩
  rw [ZkZ,if_neg (by simp only [CQ,ZU];omega)]
  rfl
 | succ j ih =>
  intro i fuel h hf
  obtain ⟨f,rfl⟩:∃ f,fuel=f+1:=⟨fuel-1,by omega⟩
  have hi:i < n.path.length:=by omega
  have hat:n.path[(i:Int).toNat]? = some n.path[i]:=by simp
  have a4:iop .add .i64 i 1=((i+1:Nat):Int):=by rw [JH (by omega) (by omega)];omega
  have hp:Zbt n i=(VA n.path[i]&&!(n.path.take i).contains n.path[i]):=by
   unfold Zbt
   rw [List.getElem?_eq_getElem hi]
  have hlt:(n.path.take i).length < 2^63:=by rw [List.length_take];omega
  rw [ZkZ,if_pos (by simp only [CQ,ZU];omega),V0 _ (by omega) hat,a4,List.range'_succ,List.all_cons,hp]
  simp only [ZzS,Option.bind_some]
  cases h1:VA n.path[i] with
  | false => simp
  | true =>
   rw [if_neg (by simp),Zj (by omega),Zj (by rw [ZU];omega),V0 _ (by omega) hat,Int.toNat_natCast,Zki,s78 _ hlt,Option.bind_some]
   cases h3:(n.path.take i).contains n.path[i] with
   | true => simp
   | false =>
    rw [if_neg (by simp)]
    have:=ih (i+1) f (by omega) (by omega)
    rw [this]
    simp
theorem s61 (n:J4) (hl:n.path.length < 2^63):g61 n.id.core n.id.op n.id.part (Zb n.path) n.cap.kind n.cap.base n.cap.bits n.cap.rights n.cap.width n.cap.level n.cap.device=some (ZR n):=by
 rw [Zvq,Zlk]
 simp only [ZzS,ZBE,Option.bind_some,ZU,s78 _ hl]
 cases h1:VA n.id with
 | false => simp [show (⟨n.id.core, n.id.op, n.id.part⟩ : Id) = n.id from rfl, h1]
 | true =>
  cases h2:Yu n.cap with
  | false => simp [show (⟨n.id.core, n.id.op, n.id.part⟩ : Id) = n.id from rfl, h1, show (⟨n.cap.kind, n.cap.base, n.cap.bits, n.cap.rights, n.cap.width, n.cap.level, n.cap.device⟩ : Cap) = n.cap from rfl, h2]
  | true =>
   rw [if_neg (by simp),if_neg (by simp)]
   by_cases h3:n.path.length≤8
   ·rw [if_neg (by simp only [CQ];omega)]
    cases h4:n.path.contains n.id with
    | true => simp
    | false =>
     rw [if_neg (by simp)]
     have:=l61 n hl n.path.length 0 ZB (by omega) (YR (by omega))
     have e:(List.range' 0 n.path.length)=List.range n.path.length:=(List.range_eq_range' ..).symm
     rw [e] at this
     refine this.trans ?_
     simp [h3]
   ·rw [if_pos (by simp only [CQ];omega)]
    simp [h3]
theorem l69 {l m:List Id} (hl:l.length < 2^63) (hm:l.length=m.length):∀ (j i fuel:Nat),l.length=i+j→j < fuel→ZpW fuel (Zb l) (Zb m) i=some (decide (l.drop i=m.drop i)):=by
 intro j
 induction j with
 | zero =>
  intro i fuel h hf
  obtain ⟨f,rfl⟩:∃ f,fuel=f+1:=⟨fuel-1,by omega⟩
  rw [ZjY,if_neg (by simp only [CQ,ZU];omega),List.drop_of_length_le (by omega),List.drop_of_length_le (by omega)]
  rfl
 | succ j ih =>
  intro i fuel h hf
  obtain ⟨f,rfl⟩:∃ f,fuel=f+1:=⟨fuel-1,by omega⟩
  have hi:i < l.length:=by omega
  have hi':i < m.length:=by omega
  have hat:l[(i:Int).toNat]? = some l[i]:=by simp
  have hat':m[(i:Int).toNat]? = some m[i]:=by simp
  have a4:iop .add .i64 i 1=((i+1:Nat):Int):=by rw [JH (by omega) (by omega)];omega
  rw [ZjY,if_pos (by simp only [CQ,ZU];omega),V0 _ (by omega) hat,V0 _ (by omega) hat',a4,List.drop_eq_getElem_cons hi,List.drop_eq_getElem_cons hi']
  by_cases he:l[i]=m[i]
  ·rw [if_neg (by rw [Bool.not_eq_true',← Bool.not_eq_true,YJ];exact fun h=>h he),ih (i+1) f (by omega) (by omega)]
   simp only [he,List.cons.injEq,true_and]
  ·rw [if_pos (by rw [Bool.not_eq_true',← Bool.not_eq_true,YJ];exact he)]
   simp only [List.cons.injEq,he,false_and,decide_false]
theorem s69 (l m:List Id) (hl:l.length < 2^63) (hm:m.length < 2^63):g69 (Zb l) (Zb m)=some (decide (l=m)):=by
 rw [Zx2,ZU,ZU]
 by_cases h:l.length=m.length
 ·rw [if_neg (by simp only [CQ];omega)]
  have:=l69 hl h l.length 0 ZB (by omega) (YR (by omega))
  rw [List.drop_zero,List.drop_zero] at this
  exact this
 ·rw [if_pos (by simp only [CQ];omega)]
  have:¬ l=m:=fun he=>h (by rw [he])
  simp [this]
end Go.Proofs.YtjldbnbdcmfbmaaGreat
end

section
namespace Go.Proofs.YtjldbnbdcmfbmaaGreat
open Go Go.AM
set_option linter.unusedSimpArgs false
set_option linter.unusedVariables false
set_option maxRecDepth 100000
theorem WJ {n:Nat} (h:n < 2^63):n+1 < ZB:=by
 have:(2:Nat)^64≤ZB:=by decide
 omega
theorem Z1 {i n:Nat} (h:i < n) (hn:n < 2^63):iop .add .i64 (i:Int) 1=((i+1:Nat):Int):=by
 rw [JH (by omega) (by omega)];omega
theorem Z6 {i n:Nat} (h:i < n):(cop .lss (i:Int) (n:Int))=true:=by
 simp only [CQ];omega
theorem Z5 {i n:Nat} (h:n≤i):¬ (cop .lss (i:Int) (n:Int))=true:=by
 simp only [CQ];omega
theorem JA {γ:Type} {F:Nat→Int→Option γ} {n:Nat} {fin bad:Option γ} (p:Nat→Bool) (hn:n < 2^63) (i0:Nat) (hi0:i0≤1)
  (step:∀ k i:Nat,i0≤i→i < n→F (k+1) (i:Int)=if p i=true then F k ((i+1:Nat):Int) else bad)
  (last:∀ k i:Nat,n≤i→F (k+1) (i:Int)=fin):F ZB (i0:Int)=if (List.range' i0 (n-i0)).all p=true then fin else bad:=by
 have key:∀ (j i fuel:Nat),i0≤i→n≤i+j→j < fuel→F fuel (i:Int)=if (List.range' i (n-i)).all p=true then fin else bad:=by
  intro j
  induction j with
  | zero =>
   intro i fuel h0 h hf
   obtain ⟨f,rfl⟩:∃ f,fuel=f+1:=⟨fuel-1,by omega⟩
   rw [last f i (by omega),show n-i=0 by omega]
   rfl
  | succ j ih =>
   intro i fuel h0 h hf
   obtain ⟨f,rfl⟩:∃ f,fuel=f+1:=⟨fuel-1,by omega⟩
   by_cases hi:i < n
   ·rw [step f i h0 hi,show n-i=(n-(i+1))+1 by omega,List.range'_succ,List.all_cons]
    cases hp:p i with
    | true => rw [if_pos rfl, ih (i + 1) f (by omega) (by omega) (by omega), Bool.true_and]
    | false => rw [if_neg Bool.false_ne_true, Bool.false_and, if_neg Bool.false_ne_true]
   ·rw [last f i (by omega),show n-i=0 by omega]
    rfl
 exact key n i0 ZB (Nat.le_refl _) (by omega) (by have:=WJ hn;omega)
theorem YE {F:Nat→Int→Option Int} {n:Nat} (p:Nat→Bool) (hn:n < 2^63)
  (step:∀ k i:Nat,i < n→F (k+1) (i:Int)=if p i=true then some (i:Int) else F k ((i+1:Nat):Int))
  (last:∀ k i:Nat,n≤i→F (k+1) (i:Int)=some (-1)):∃ r,F ZB 0=some r∧cop .geq r 0=(List.range' 0 n).any p:=by
 have key:∀ (j i fuel:Nat),n≤i+j→j < fuel→∃ r,F fuel (i:Int)=some r∧cop .geq r 0=(List.range' i (n-i)).any p:=by
  intro j
  induction j with
  | zero =>
   intro i fuel h hf
   obtain ⟨f,rfl⟩:∃ f,fuel=f+1:=⟨fuel-1,by omega⟩
   rw [last f i (by omega),show n-i=0 by omega]
   exact ⟨_,rfl,rfl⟩
  | succ j ih =>
   intro i fuel h hf
   obtain ⟨f,rfl⟩:∃ f,fuel=f+1:=⟨fuel-1,by omega⟩
   by_cases hi:i < n
   ·rw [step f i hi,show n-i=(n-(i+1))+1 by omega,List.range'_succ,List.any_cons]
    cases hp:p i with
    | true =>
     rw [if_pos rfl,Bool.true_or]
     refine ⟨_,rfl,?_⟩
     simp only [CQ]
     omega
    | false => rw [if_neg Bool.false_ne_true, Bool.false_or]; exact ih (i + 1) f (by omega) (by omega)
   ·rw [last f i (by omega),show n-i=0 by omega]
    exact ⟨_,rfl,rfl⟩
 have:=key n 0 ZB (by omega) (by have:=WJ hn;omega)
 simpa using this
def atB {α:Type} (q:α→Bool) (l:List α) (i:Nat):Bool:=match l[i]? with | some x=>q x | none=>true
theorem Yg {α:Type} (q:α→Bool) {l:List α} {i:Nat} (h:i < l.length):atB q l i=q l[i]:=by
 unfold atB
 rw [List.getElem?_eq_getElem h]
theorem Zk9 {α:Type} (q:α→Bool) (l:List α):(List.range' 0 l.length).all (atB q l)=l.all q:=by
 rw [Zw,List.all_eq_true,List.all_eq_true]
 constructor
 ·intro h x hx
  obtain ⟨i,hi,rfl⟩:=List.getElem_of_mem hx
  have:=h i (by simp [List.mem_range',hi])
  rwa [Yg q hi] at this
 ·intro h i hi
  have hi':i < l.length:=by simpa [List.mem_range'] using hi
  rw [Yg q hi']
  exact h _ (List.getElem_mem hi')
theorem V4 {α:Type} (q:α→Bool) (l:List α):(List.range' 0 l.length).any (fun i=>!atB q l i) = !(l.all q):=by
 rw [← Zk9 q l,List.any_eq_not_all_not]
 simp
def Zih {α:Type} (lt:α→α→Bool) (l:List α):Nat→Bool
 | 0 => true
 | j + 1 => match l[j]?, l[j + 1]? with | some a, some b => lt a b | _, _ => true
def VM {α:Type} (lt:α→α→Bool) (l:List α):Bool:=(List.range' 0 l.length).all (Zih lt l)
theorem WY {α:Type} (lt:α→α→Bool) {l:List α} {j:Nat} (h:j+1 < l.length):Zih lt l (j+1)=lt l[j] l[j+1]:=by
 show (match l[j]?,l[j+1]? with | some a,some b=>lt a b | _,_=>true)=_
 rw [List.getElem?_eq_getElem h,List.getElem?_eq_getElem (show j < l.length by omega)]
theorem Zxt {α:Type} (lt:α→α→Bool) (l:List α):(List.range' 1 (l.length-1)).all (Zih lt l)=VM lt l:=by
 unfold VM
 cases l with
 | nil => rfl
 | cons a r => rw [show (a :: r).length = ((a :: r).length - 1) + 1 from rfl, List.range'_succ, List.all_cons]; rfl
theorem ZmM {α:Type} (l:List α) (p q:α→Bool):l.all (fun i=>p i&&q i)=(l.all p&&l.all q):=by
 induction l with
 | nil => rfl
 | cons a r ih => simp only [List.all_cons, ih]; cases p a <;> cases q a <;> cases r.all p <;> rfl
structure Call where
 kind:Int
 slot:Int
 dest:Int
 core:Int
 mask:Int
 object:Int
 bits:Int
 level:Int
 offset:Int
 count:Int
 index:Int
 addr:Int
structure Req where
 id:Id
 call:Call
 region:Int
 width:Int
 src:J4
structure YS where
 node:J4
 op:Int
 lock:Id
structure ZbD where
 region:Int
 op:Id
structure Ans where
 op:Int
 err:Int
structure ZD where
 core:Int
 slot:Int
 node:J4
structure Zff where
 region:Int
 to:Int
structure Vu where
 number:Int
 members:List Int
 owners:List Int
structure Jv where
 slots:List YS
 pending:List Req
 marks:List ZbD
 answers:List Ans
 entries:List ZD
 commits:List Id
structure Jl where
 core:Int
 view:Vu
 state:Jv
 ready:Bool
 next:Vu
 proposal:Jv
def ZT (n:J4):List AV:=[I n.id.core,I n.id.op,I n.id.part,.slice false 3 (Zb n.path),I n.cap.kind,I n.cap.base,I n.cap.bits,I n.cap.rights,I n.cap.width,I n.cap.level,B n.cap.device]
def Zt (r:Req):List AV:=[I r.id.core,I r.id.op,I r.id.part,I r.call.kind,I r.call.slot,I r.call.dest,I r.call.core,I r.call.mask,I r.call.object,I r.call.bits,I r.call.level,I r.call.offset,I r.call.count,I r.call.index,I r.call.addr,I r.region,I r.width,I r.src.id.core,I r.src.id.op,I r.src.id.part,.slice false 3 (Zb r.src.path),I r.src.cap.kind,I r.src.cap.base,I r.src.cap.bits,I r.src.cap.rights,I r.src.cap.width,I r.src.cap.level,B r.src.cap.device]
def Zh (s:YS):List AV:=[I s.node.id.core,I s.node.id.op,I s.node.id.part,.slice false 3 (Zb s.node.path),I s.node.cap.kind,I s.node.cap.base,I s.node.cap.bits,I s.node.cap.rights,I s.node.cap.width,I s.node.cap.level,B s.node.cap.device,I s.op,I s.lock.core,I s.lock.op,I s.lock.part]
def Zi (m:ZbD):List AV:=[I m.region,I m.op.core,I m.op.op,I m.op.part]
def Zy (a:Ans):List AV:=[I a.op,I a.err]
def ZZ (a:Zff):List AV:=[I a.region,I a.to]
def Zf (e:ZD):List AV:=[I e.core,I e.slot,I e.node.id.core,I e.node.id.op,I e.node.id.part,.slice false 3 (Zb e.node.path),I e.node.cap.kind,I e.node.cap.base,I e.node.cap.bits,I e.node.cap.rights,I e.node.cap.width,I e.node.cap.level,B e.node.cap.device]
abbrev Zmr:List Sh:=[.int .i64,.int .i64,.int .i64,.slice 3,.int .i64,.int .i64,.int .i64,.int .i64,.int .i64,.int .i64,.bool]
abbrev Zs7:List Sh:=[.int .i64,.int .i64,.int .i64,.int .i64,.int .i64,.int .i64,.int .i64,.int .i64,.int .i64,.int .i64,.int .i64,.int .i64,.int .i64,.int .i64,.int .i64,.int .i64,.int .i64,.int .i64,.int .i64,.int .i64,.slice 3,.int .i64,.int .i64,.int .i64,.int .i64,.int .i64,.int .i64,.bool]
abbrev Znt:List Sh:=[.int .i64,.int .i64,.int .i64,.slice 3,.int .i64,.int .i64,.int .i64,.int .i64,.int .i64,.int .i64,.bool,.int .i64,.int .i64,.int .i64,.int .i64]
abbrev Zc0:List Sh:=[.int .i64,.int .i64,.int .i64,.int .i64,.int .i64,.slice 3,.int .i64,.int .i64,.int .i64,.int .i64,.int .i64,.int .i64,.bool]
def ZlO (n:J4):ShsT Zmr:=(n.id.core,n.id.op,n.id.part,Zb n.path,n.cap.kind,n.cap.base,n.cap.bits,n.cap.rights,n.cap.width,n.cap.level,n.cap.device)
def ZuI (r:Req):ShsT Zs7:=(r.id.core,r.id.op,r.id.part,r.call.kind,r.call.slot,r.call.dest,r.call.core,r.call.mask,r.call.object,r.call.bits,r.call.level,r.call.offset,r.call.count,r.call.index,r.call.addr,r.region,r.width,r.src.id.core,r.src.id.op,r.src.id.part,Zb r.src.path,r.src.cap.kind,r.src.cap.base,r.src.cap.bits,r.src.cap.rights,r.src.cap.width,r.src.cap.level,r.src.cap.device)
def Zlx (s:YS):ShsT Znt:=(s.node.id.core,s.node.id.op,s.node.id.part,Zb s.node.path,s.node.cap.kind,s.node.cap.base,s.node.cap.bits,s.node.cap.rights,s.node.cap.width,s.node.cap.level,s.node.cap.device,s.op,s.lock.core,s.lock.op,s.lock.part)
def Yl (e:ZD):ShsT Zc0:=(e.core,e.slot,e.node.id.core,e.node.id.op,e.node.id.part,Zb e.node.path,e.node.cap.kind,e.node.cap.base,e.node.cap.bits,e.node.cap.rights,e.node.cap.width,e.node.cap.level,e.node.cap.device)
theorem Ys {α γ:Type} {f:α→List AV} {sh:List Sh} {v:α→ShsT sh} (hf:∀ x,ZoG sh (f x)=some (v x)) {l:List α} {i:Nat} (h:i < l.length) (k:ShsT sh→Option γ):Zm (l.map f) (i:Int) sh k=k (v l[i]):=by
 refine Yq k (by omega) (cs:=f l[i]) ?_ (hf _)
 rw [Int.toNat_natCast,List.getElem?_map,List.getElem?_eq_getElem h]
 rfl
theorem KG {γ:Type} {l:List J4} {i:Nat} (h:i < l.length) (k:ShsT Zmr→Option γ):Zm (l.map ZT) (i:Int) Zmr k=k (ZlO l[i]):=Ys (fun _=>rfl) h k
theorem Ym {γ:Type} {l:List Req} {i:Nat} (h:i < l.length) (k:ShsT Zs7→Option γ):Zm (l.map Zt) (i:Int) Zs7 k=k (ZuI l[i]):=Ys (fun _=>rfl) h k
theorem Yd {γ:Type} {l:List YS} {i:Nat} (h:i < l.length) (k:ShsT Znt→Option γ):Zm (l.map Zh) (i:Int) Znt k=k (Zlx l[i]):=Ys (fun _=>rfl) h k
theorem Zo {γ:Type} {l:List ZD} {i:Nat} (h:i < l.length) (k:ShsT Zc0→Option γ):Zm (l.map Zf) (i:Int) Zc0 k=k (Yl l[i]):=Ys (fun _=>rfl) h k
theorem Yb {γ:Type} {l:List ZbD} {i:Nat} (h:i < l.length) (k:(Int×Int×Int×Int)→Option γ):Zm (l.map Zi) (i:Int) [.int .i64,.int .i64,.int .i64,.int .i64] k=k (l[i].region,l[i].op.core,l[i].op.op,l[i].op.part):=Ys (sh:=[.int .i64,.int .i64,.int .i64,.int .i64]) (v:=fun x=>(x.region,x.op.core,x.op.op,x.op.part)) (fun _=>rfl) h k
theorem YB {γ:Type} {l:List Ans} {i:Nat} (h:i < l.length) (k:(Int×Int)→Option γ):Zm (l.map Zy) (i:Int) [.int .i64,.int .i64] k=k (l[i].op,l[i].err):=Ys (sh:=[.int .i64,.int .i64]) (v:=fun x=>(x.op,x.err)) (fun _=>rfl) h k
theorem Kq {γ:Type} {l:List Zff} {i:Nat} (h:i < l.length) (k:(Int×Int)→Option γ):Zm (l.map ZZ) (i:Int) [.int .i64,.int .i64] k=k (l[i].region,l[i].to):=Ys (sh:=[.int .i64,.int .i64]) (v:=fun x=>(x.region,x.to)) (fun _=>rfl) h k
theorem ZaP {γ:Type} {l:List Id} {i:Nat} (h:i < l.length) (k:(Int×Int×Int)→Option γ):Zm (Zb l) (i:Int) [.int .i64,.int .i64,.int .i64] k=k (l[i].core,l[i].op,l[i].part):=Ys (f:=idc) (sh:=[.int .i64,.int .i64,.int .i64]) (v:=fun x=>(x.core,x.op,x.part)) (fun _=>rfl) h k
theorem Z3 {γ:Type} {l:List Int} {i:Nat} (h:i < l.length) (k:Int→Option γ):Zm (Za l) (i:Int) [.int .i64] k=k l[i]:=Ys (f:=Wo) (sh:=[.int .i64]) (v:=fun x=>x) (fun _=>rfl) h k
theorem ZbV (i:Id):(⟨i.core,i.op,i.part⟩:Id)=i:=rfl
end Go.Proofs.YtjldbnbdcmfbmaaGreat
end

section
namespace Go.Proofs.YtjldbnbdcmfbmaaGreat
open Go Go.AM
set_option linter.unusedSimpArgs false
set_option linter.unusedVariables false
set_option maxRecDepth 100000
def Jh (z:Int):Bool:=decide (0≤z∧z < 32)
def Yc (z:Int):Bool:=decide (0≤z∧z < 16)
def ZbU (z:Int):Bool:=decide (0≤z∧z < 64)
def Zd1 (z:Int):Bool:=decide (0≤z∧z≤99)
def ZdQ (i:Id):Bool:=VA i&&decide (i.part=0)
theorem s34 (z:Int):g34 z=some (Jh z):=by
 rw [Zwv]
 repeat' split
 all_goals (refine congrArg some ?_;rw [Zw];simp only [Jh,CQ] at *; omega)
theorem s89 (z:Int):g89 z=some (Yc z):=by
 rw [Zwr]
 repeat' split
 all_goals (refine congrArg some ?_;rw [Zw];simp only [Yc,CQ] at *; omega)
theorem s96 (z:Int):g96 z=some (ZbU z):=by
 rw [Zyf]
 repeat' split
 all_goals (refine congrArg some ?_;rw [Zw];simp only [ZbU,CQ] at *; omega)
theorem s92 (z:Int):g92 z=some (Zd1 z):=by
 rw [ZvH]
 repeat' split
 all_goals (refine congrArg some ?_;rw [Zw];simp only [Zd1,CQ] at *; omega)
theorem s91 (i:Id):g91 i.core i.op i.part=some (ZdQ i):=by
 rw [Zw7,s99,Option.bind_some,ZbV]
 repeat' split
 all_goals (refine congrArg some ?_;rw [Zw];simp only [ZdQ,CQ] at *; grind)
theorem ZDs {l m:List Id} (hl:l.length < 2^63) (h:l.length=m.length):Zdd ZB (Zb l) (Zb m) (l.length:Int) 0=some (decide (l=m)):=by
 have:=JA (F:=fun k i=>Zdd k (Zb l) (Zb m) (l.length:Int) i) (n:=l.length) (fin:=some true) (bad:=some false) (fun i=>decide (l[i]? = m[i]?)) hl 0 (by omega)
  (fun k i _ hi=>by
   have hm:i < m.length:=by omega
   show Zdd (k+1) _ _ _ _=_
   rw [ZhA,if_pos (Z6 hi),ZaP hi,ZaP hm,Z1 hi hl]
   rw [List.getElem?_eq_getElem hi,List.getElem?_eq_getElem hm]
   by_cases he:l[i]=m[i]
   ·rw [if_neg (by rw [Bool.not_eq_true',← Bool.not_eq_true,YJ];exact fun h=>h he),if_pos (by simp [he])]
   ·rw [if_pos (by rw [Bool.not_eq_true',← Bool.not_eq_true,YJ];exact he),if_neg (by simp [he])])
  (fun k i hi=>by show Zdd (k+1) _ _ _ _=_;rw [ZhA,if_neg (Z5 hi)])
 refine this.trans ?_
 have e:(List.range' 0 (l.length-0)).all (fun i=>decide (l[i]? = m[i]?))=decide (l=m):=by
  rw [Zw,List.all_eq_true,decide_eq_true_eq]
  constructor
  ·intro hh
   refine List.ext_getElem? fun i=>?_
   by_cases hi:i < l.length
   ·exact of_decide_eq_true (hh i (by simp [List.mem_range',hi]))
   ·rw [List.getElem?_eq_none (by omega),List.getElem?_eq_none (by omega)]
  ·rintro rfl i _
   exact decide_eq_true rfl
 rw [e]
 cases decide (l=m)<;>rfl
theorem ZDG (l m:List Id) (hl:l.length < 2^63):ZzT (Zb l) (Zb m)=some (decide (l=m)):=by
 rw [ZsY,ZU,ZU]
 by_cases h:l.length=m.length
 ·rw [if_neg (by simp [cop,h]),ZDs hl h]
 ·rw [if_pos (by simp [cop];omega)]
  have:¬ l=m:=fun he=>h (by rw [he])
  simp [this]
def K3 (a b:J4):Bool:=decide (a.id=b.id)&&decide (a.cap.kind=b.cap.kind∧a.cap.base=b.cap.base∧a.cap.bits=b.cap.bits∧a.cap.rights=b.cap.rights∧a.cap.width=b.cap.width∧a.cap.level=b.cap.level∧a.cap.device=b.cap.device)&&decide (a.path=b.path)
theorem Zfi (a b:Cap):(((cop .eql a.kind b.kind)&&((cop .eql a.base b.base)&&((cop .eql a.bits b.bits)&&((cop .eql a.rights b.rights)&&((cop .eql a.width b.width)&&((cop .eql a.level b.level)&&((a.device == b.device)&&true)))))))=true)↔(a.kind=b.kind∧a.base=b.base∧a.bits=b.bits∧a.rights=b.rights∧a.width=b.width∧a.level=b.level∧a.device=b.device):=by
 simp only [CQ,beq_iff_eq,and_true]
theorem ZD8 (a b:J4) (ha:a.path.length < 2^63):ZtX a.id.core a.id.op a.id.part (Zb a.path) a.cap.kind a.cap.base a.cap.bits a.cap.rights a.cap.width a.cap.level a.cap.device b.id.core b.id.op b.id.part (Zb b.path) b.cap.kind b.cap.base b.cap.bits b.cap.rights b.cap.width b.cap.level b.cap.device=some (K3 a b):=by
 rw [Zua,ZDG _ _ ha,Option.bind_some]
 unfold K3
 refine JD (fun h=>?_) fun h=>?_
 ·rw [YJ] at h
  refine JD (fun h2=>?_) fun h2=>?_
  ·rw [Zfi] at h2
   rw [decide_eq_true (show a.id=b.id from h),decide_eq_true h2];rfl
  ·rw [Zfi] at h2
   rw [decide_eq_true (show a.id=b.id from h),decide_eq_false h2];rfl
 ·rw [YJ] at h
  rw [decide_eq_false (show ¬ a.id=b.id from h)];rfl
theorem ZpO (a b:J4) (ha:a.path.length < 2^63) (hb:b.path.length < 2^63):ZuT a.id.core a.id.op a.id.part (Zb a.path) a.cap.kind a.cap.base a.cap.bits a.cap.rights a.cap.width a.cap.level a.cap.device b.id.core b.id.op b.id.part (Zb b.path) b.cap.kind b.cap.base b.cap.bits b.cap.rights b.cap.width b.cap.level b.cap.device=some (K3 a b):=by
 rw [ZtH,s69 _ _ ha hb,Option.bind_some]
 unfold K3
 refine JD (fun h=>?_) fun h=>?_
 ·rw [YJ] at h
  refine JD (fun h2=>?_) fun h2=>?_
  ·rw [Zfi] at h2
   rw [decide_eq_true (show a.id=b.id from h),decide_eq_true h2];rfl
  ·rw [Zfi] at h2
   rw [decide_eq_true (show a.id=b.id from h),decide_eq_false h2];rfl
 ·rw [YJ] at h
  rw [decide_eq_false (show ¬ a.id=b.id from h)];rfl
def ZS:J4:=⟨⟨0,0,0⟩,[],⟨0,0,0,0,0,0,false⟩⟩
theorem Zru (a:J4) (ha:a.path.length < 2^63):ZtX a.id.core a.id.op a.id.part (Zb a.path) a.cap.kind a.cap.base a.cap.bits a.cap.rights a.cap.width a.cap.level a.cap.device 0 0 0 E0 0 0 0 0 0 0 false=some (K3 a ZS):=ZD8 a ZS ha
def K8 (r:Req):Bool:=ZdQ r.id&&decide (1≤r.call.kind∧r.call.kind≤6)&&Yc r.region&&decide (r.width=32∨r.width=39)&&(if r.call.kind=1 then K3 r.src ZS else ZR r.src)
theorem s90 (r:Req) (hr:r.src.path.length < 2^63):g90 r.id.core r.id.op r.id.part r.call.kind r.call.slot r.call.dest r.call.core r.call.mask r.call.object r.call.bits r.call.level r.call.offset r.call.count r.call.index r.call.addr r.region r.width r.src.id.core r.src.id.op r.src.id.part (Zb r.src.path) r.src.cap.kind r.src.cap.base r.src.cap.bits r.src.cap.rights r.src.cap.width r.src.cap.level r.src.cap.device=some (K8 r):=by
 rw [Zvo]
 simp only [s91,s89,Zru _ hr,s95 _ hr,Option.bind_some]
 repeat' split
 all_goals (refine congrArg some ?_;rw [Zw];simp only [K8,CQ] at *; grind)
end Go.Proofs.YtjldbnbdcmfbmaaGreat
end

section
namespace Go.Proofs.YtjldbnbdcmfbmaaGreat
open Go Go.AM
set_option linter.unusedSimpArgs false
set_option linter.unusedVariables false
set_option maxRecDepth 100000
theorem Zpd {γ:Type} {F:Nat→Int→Option γ} {n:Nat} {miss:γ} (hit:Nat→γ) (p:Nat→Bool) (hn:n < 2^63)
  (step:∀ k i:Nat,i < n→F (k+1) (i:Int)=if p i=true then some (hit i) else F k ((i+1:Nat):Int))
  (last:∀ k i:Nat,n≤i→F (k+1) (i:Int)=some miss) :
  (∃ i,i < n∧p i=true∧(∀ j,j < i→p j=false)∧F ZB 0=some (hit i))∨((∀ j,j < n→p j=false)∧F ZB 0=some miss):=by
 have key:∀ (j i fuel:Nat),n≤i+j→j < fuel→(∃ m,i≤m∧m < n∧p m=true∧(∀ j,i≤j→j < m→p j=false)∧F fuel (i:Int)=some (hit m))∨((∀ j,i≤j→j < n→p j=false)∧F fuel (i:Int)=some miss):=by
  intro j
  induction j with
  | zero =>
   intro i fuel h hf
   obtain ⟨f,rfl⟩:∃ f,fuel=f+1:=⟨fuel-1,by omega⟩
   exact .inr ⟨fun j h1 h2=>by omega,last f i (by omega)⟩
  | succ j ih =>
   intro i fuel h hf
   obtain ⟨f,rfl⟩:∃ f,fuel=f+1:=⟨fuel-1,by omega⟩
   by_cases hi:i < n
   ·rw [step f i hi]
    cases hp:p i with
    | true => exact .inl ⟨i, Nat.le_refl _, hi, hp, fun j h1 h2 => by omega, if_pos rfl⟩
    | false =>
     rw [if_neg Bool.false_ne_true]
     rcases ih (i+1) f (by omega) (by omega) with ⟨m,h1,h2,h3,h4,h5⟩ | ⟨h1,h2⟩
     ·refine .inl ⟨m,by omega,h2,h3,fun j h6 h7=>?_,h5⟩
      by_cases he:j=i
      ·rw [he];exact hp
      ·exact h4 j (by omega) h7
     ·refine .inr ⟨fun j h6 h7=>?_,h2⟩
      by_cases he:j=i
      ·rw [he];exact hp
      ·exact h1 j (by omega) h7
   ·exact .inr ⟨fun j h1 h2=>by omega,last f i (by omega)⟩
 rcases key n 0 ZB (by omega) (by have:=WJ hn;omega) with ⟨m,_,h2,h3,h4,h5⟩ | ⟨h1,h2⟩
 ·exact .inl ⟨m,h2,h3,fun j hj=>h4 j (by omega) hj,h5⟩
 ·exact .inr ⟨fun j hj=>h1 j (by omega) hj,h2⟩
def zid:Id:=⟨0,0,0⟩
def ZoY (i:Id) (t:YS):Bool:=!decide (t.node.id=zid)&&decide (t.node.id=i)
def Zcr (s:YS):Bool:=decide (0≤s.op∧s.op≤1073741824)&&(if s.node.id=zid then K3 s.node ZS&&decide (s.lock=zid) else ZR s.node&&(decide (s.lock=zid)||ZdQ s.lock))
def ZeU (l:List YS) (i:Nat):Bool:=match l[i]? with | some s=>!((l.take i).any (ZoY s.node.id)) | none=>true
def VY (l:List YS):Bool:=decide (l.length≤64)&&(List.range' 0 l.length).all (fun i=>atB Zcr l i&&ZeU l i)
theorem Wd (a b c:Int):((cop .eql a 0&&(cop .eql b 0&&(cop .eql c 0&&true)))=true)↔((⟨a,b,c⟩:Id)=zid):=YJ a b c 0 0 0
theorem ZEk (s:YS) (hs:s.node.path.length < 2^63):ZAu s.node.id.core s.node.id.op s.node.id.part (Zb s.node.path) s.node.cap.kind s.node.cap.base s.node.cap.bits s.node.cap.rights s.node.cap.width s.node.cap.level s.node.cap.device s.op s.lock.core s.lock.op s.lock.part=some (Zcr s):=by
 rw [ZrU]
 simp only [Znc,Zru _ hs,s95 _ hs,s99,Option.bind_some,Wd,ZbV]
 have e:cop .eql s.lock.part 0=decide (s.lock.part=0):=rfl
 have e2:((cop .eql s.lock.core 0)&&((cop .eql s.lock.op 0)&&((cop .eql s.lock.part 0)&&true)))=decide (s.lock=zid):=by
  rw [Zw,Wd,ZbV,decide_eq_true_eq]
 simp only [e2]
 repeat' split
 all_goals (refine congrArg some ?_;rw [Zw];simp only [Zcr,ZdQ,CQ] at *; grind)
theorem ZdC (l:List YS):(l.map Zh).length=l.length:=List.length_map _
theorem ZDX (l:List YS) (hl:l.length < 2^63) (a b c:Int):∃ r,ZBN (l.map Zh) a b c=some (r,l.any (ZoY ⟨a,b,c⟩)):=by
 rw [ZtV,ZdC]
 have:=Zpd (F:=fun k i=>Zcs k a b c (l.map Zh) (l.length:Int) i) (n:=l.length) (miss:=((0:Int),false)) (fun i=>((i:Int),true)) (atB (ZoY ⟨a,b,c⟩) l) hl
  (fun k i hi=>by
   show Zcs (k+1) _ _ _ _ _ _=_
   rw [Zg2,if_pos (Z6 hi)]
   refine (Yd hi _).trans ?_
   simp only [Zlx,d2,d4,d8,d16]
   rw [Znc,Option.bind_some,Z1 hi hl,Yg _ hi]
   generalize l[i]=t
   simp only [Wd,YJ,ZbV,Bool.not_eq_true']
   unfold ZoY
   by_cases h1:t.node.id=zid
   ·rw [if_neg (by simp only [Bool.not_eq_false];rw [Wd];exact h1),if_neg (by simp [h1])]
   ·rw [if_pos (by rw [← Bool.not_eq_true,Wd];exact h1)]
    by_cases h2:t.node.id=⟨a,b,c⟩
    ·rw [if_pos (by exact h2),if_pos (by simp [h1,h2];exact fun h=>h1 (h2.trans h))]
    ·rw [if_neg (by exact h2),if_neg (by simp [h1,h2])])
  (fun k i hi=>by show Zcs (k+1) _ _ _ _ _ _=_;rw [Zg2,if_neg (Z5 hi)])
 rcases this with ⟨i,h1,h2,h3,h4⟩ | ⟨h1,h2⟩
 ·refine ⟨i,?_⟩
  have e:l.any (ZoY ⟨a,b,c⟩)=true:=by
   rw [Yg _ h1] at h2
   exact List.any_eq_true.2 ⟨l[i],List.getElem_mem h1,h2⟩
  rw [e];exact h4
 ·refine ⟨0,?_⟩
  have e:l.any (ZoY ⟨a,b,c⟩)=false:=by
   rw [List.any_eq_false]
   intro x hx
   obtain ⟨j,hj,rfl⟩:=List.getElem_of_mem hx
   have:=h1 j hj
   rw [Yg _ hj] at this
   rw [this];exact Bool.false_ne_true
  rw [e];exact h2
theorem ZES (l:List YS) (hl:l.length < 2^63) (hp:∀ s∈l,s.node.path.length < 2^63):ZzK (l.map Zh)=some (VY l):=by
 rw [ZrK,ZdC]
 unfold VY
 refine JD (fun h=>?_) fun h=>?_
 ·rw [decide_eq_false (by simp only [CQ] at h;omega),Bool.false_and]
 ·rw [decide_eq_true (by simp only [CQ] at h;omega),Bool.true_and]
  have:=JA (F:=fun k i=>Zeg k (l.map Zh) (l.map Zh) (l.length:Int) i) (n:=l.length) (fin:=some true) (bad:=some false) (fun i=>atB Zcr l i&&ZeU l i) hl 0 (by omega)
   (fun k i _ hi=>by
    show Zeg (k+1) _ _ _ _=_
    rw [Zg6,if_pos (Z6 hi)]
    refine (Yd hi _).trans ?_
    simp only [Zlx,d2,d4,d8,d16]
    obtain ⟨r,hr⟩:=ZDX (l.take i) (by rw [List.length_take];omega) l[i].node.id.core l[i].node.id.op l[i].node.id.part
    have hu:ZeU l i = !((l.take i).any (ZoY l[i].node.id)):=by unfold ZeU;rw [List.getElem?_eq_getElem hi]
    rw [ZEk _ (hp _ (List.getElem_mem hi)),Option.bind_some,Zj (by omega),Zj (by rw [ZdC];omega),Int.toNat_natCast,← List.map_take,hr,Option.bind_some,Z1 hi hl,Yg _ hi,hu,ZbV]
    cases Zcr l[i]<;>cases (l.take i).any (ZoY l[i].node.id)<;>rfl)
   (fun k i hi=>by show Zeg (k+1) _ _ _ _=_;rw [Zg6,if_neg (Z5 hi)])
  refine this.trans ?_
  rw [Nat.sub_zero]
  cases (List.range' 0 l.length).all (fun i=>atB Zcr l i&&ZeU l i)<;>rfl
end Go.Proofs.YtjldbnbdcmfbmaaGreat
end

section
namespace Go.Proofs.YtjldbnbdcmfbmaaGreat
open Go Go.AM
set_option linter.unusedSimpArgs false
set_option linter.unusedVariables false
set_option maxRecDepth 100000
theorem Zof {j:Nat} (h:j+1 < 2^63):iop .sub .i64 ((j+1:Nat):Int) 1=(j:Int):=by
 rw [Zd3 (by omega) (by omega)];omega
def ZyF (a b:Id):Bool:=ZuV a.core a.op a.part b.core b.op b.part
theorem s82 (a b c d e f:Int):g82 a b c d e f=some (ZuV a b c d e f):=by
 rw [ZwE]
 repeat' split
 all_goals (refine congrArg some ?_;rw [Zw];simp only [ZuV,CQ] at *; omega)
def K9 (m:ZbD):Bool:=Yc m.region&&ZdQ m.op
def Zbz (a:Ans):Bool:=decide (1≤a.op∧a.op≤1073741824)&&Zd1 a.err
def ZaQ (e:ZD):Bool:=Jh e.core&&ZbU e.slot&&ZR e.node
def ltp:Req→Req→Bool:=fun a b=>ZyF a.id b.id
theorem ZEZ (x:Req) (hx:x.src.path.length < 2^63):ZAp x.id.core x.id.op x.id.part x.call.kind x.call.slot x.call.dest x.call.core x.call.mask x.call.object x.call.bits x.call.level x.call.offset x.call.count x.call.index x.call.addr x.region x.width x.src.id.core x.src.id.op x.src.id.part (Zb x.src.path) x.src.cap.kind x.src.cap.base x.src.cap.bits x.src.cap.rights x.src.cap.width x.src.cap.level x.src.cap.device=some (!K8 x):=by
 rw [Zrr,s90 x hx,Option.bind_some]
theorem Zqj (l:List Req) (hl:l.length < 2^63) (hp:∀ x∈l,x.src.path.length < 2^63):∃ r,Zfs (l.map Zt)=some r∧cop .geq r 0 = !(l.all K8):=by
 rw [Zi2,List.length_map]
 have:=YE (F:=fun k i=>Kt k (l.map Zt) (l.length:Int) i) (n:=l.length) (fun i=>!atB K8 l i) hl
  (fun k i hi=>by
   show Kt (k+1) _ _ _=_
   rw [Zaw,if_pos (Z6 hi)]
   refine (Ym hi _).trans ?_
   simp only [ZuI,d2,d4,d8,d16]
   rw [ZEZ l[i] (hp _ (List.getElem_mem hi)),Option.bind_some,Z1 hi hl,Yg _ hi])
  (fun k i hi=>by show Kt (k+1) _ _ _=_;rw [Zaw,if_neg (Z5 hi)])
 rw [V4] at this
 exact this
theorem ZqO (l:List Req) (hl:l.length < 2^63) (hp:∀ x∈l,x.src.path.length < 2^63):Zfx (l.map Zt)=some (!(l.all K8)):=by
 obtain ⟨r,h1,h2⟩:=Zqj l hl hp
 rw [ZiY,h1,Option.bind_some,h2]
theorem ZEX (l:List Req) {j:Nat} (hj:j+1 < l.length):ZAo (j:Int) ((j+1:Nat):Int) (l.map Zt)=some (ltp l[j] l[j+1],l.map Zt):=by
 rw [Zrt]
 refine (Ym (show j < l.length by omega) _).trans ?_
 refine (Ym hj _).trans ?_
 simp only [ZuI,d2,d4,d8,d16]
 rw [ZC4,Option.bind_some];rfl
theorem ZqD (l:List Req) (hl:l.length < 2^63):Zgj (l.length:Int) (l.map Zt)=some (VM ltp l,l.map Zt):=by
 rw [ZiE]
 have:=JA (F:=fun k i=>Kz k (l.length:Int) i (l.map Zt)) (n:=l.length) (fin:=some (true,l.map Zt)) (bad:=some (false,l.map Zt)) (Zih ltp l) hl 1 (by omega)
  (fun k i h1 hi=>by
   obtain ⟨j,rfl⟩:∃ j,i=j+1:=⟨i-1,by omega⟩
   show Kz (k+1) _ _ _=_
   rw [Zad,if_pos (Z6 hi),Zof (by omega),ZEX l hi,Option.bind_some,Z1 hi hl,WY _ hi]
   cases ltp l[j] l[j+1]<;>rfl)
  (fun k i hi=>by show Kz (k+1) _ _ _=_;rw [Zad,if_neg (Z5 hi)])
 rw [Zxt] at this
 refine Eq.trans this ?_
 cases VM ltp l<;>rfl
theorem ZDI (l:List Req) (hl:l.length < 2^63) (hp:∀ x∈l,x.src.path.length < 2^63):ZCb (l.map Zt)=some (l.all K8&&VM ltp l):=by
 rw [Zs6,ZqO l hl hp,Option.bind_some,List.length_map,ZqD l hl,Option.bind_some]
 cases l.all K8<;>rfl
def ltm:ZbD→ZbD→Bool:=fun a b=>decide (a.region < b.region)
theorem ZEE (x:ZbD):ZzV x.region x.op.core x.op.op x.op.part=some (!K9 x):=by
 rw [Zus]
 simp only [s89,s91,Option.bind_some]
 repeat' split
 all_goals (refine congrArg some ?_;rw [Zw];simp only [K9,CQ] at * <;> grind)
theorem Zqv (l:List ZbD) (hl:l.length < 2^63):∃ r,Ze9 (l.map Zi)=some r∧cop .geq r 0 = !(l.all K9):=by
 rw [ZiR,List.length_map]
 have:=YE (F:=fun k i=>KH k (l.map Zi) (l.length:Int) i) (n:=l.length) (fun i=>!atB K9 l i) hl
  (fun k i hi=>by
   show KH (k+1) _ _ _=_
   rw [Za7,if_pos (Z6 hi)]
   refine (Yb hi _).trans ?_
   simp only [d2,d4,d8,d16]
   rw [ZEE l[i],Option.bind_some,Z1 hi hl,Yg _ hi])
  (fun k i hi=>by show KH (k+1) _ _ _=_;rw [Za7,if_neg (Z5 hi)])
 rw [V4] at this
 exact this
theorem ZpV (l:List ZbD) (hl:l.length < 2^63):Zfn (l.map Zi)=some (!(l.all K9)):=by
 obtain ⟨r,h1,h2⟩:=Zqv l hl
 rw [Ziw,h1,Option.bind_some,h2]
theorem ZEH (l:List ZbD) {j:Nat} (hj:j+1 < l.length):ZA9 (j:Int) ((j+1:Nat):Int) (l.map Zi)=some (ltm l[j] l[j+1],l.map Zi):=by
 rw [Zsy]
 refine (Yb (show j < l.length by omega) _).trans ?_
 refine (Yb hj _).trans ?_
 simp only [d2,d4,d8,d16]
 rfl
theorem ZqH (l:List ZbD) (hl:l.length < 2^63):Zfl (l.length:Int) (l.map Zi)=some (VM ltm l,l.map Zi):=by
 rw [ZjB]
 have:=JA (F:=fun k i=>KC k (l.length:Int) i (l.map Zi)) (n:=l.length) (fin:=some (true,l.map Zi)) (bad:=some (false,l.map Zi)) (Zih ltm l) hl 1 (by omega)
  (fun k i h1 hi=>by
   obtain ⟨j,rfl⟩:∃ j,i=j+1:=⟨i-1,by omega⟩
   show KC (k+1) _ _ _=_
   rw [Zao,if_pos (Z6 hi),Zof (by omega),ZEH l hi,Option.bind_some,Z1 hi hl,WY _ hi]
   cases ltm l[j] l[j+1]<;>rfl)
  (fun k i hi=>by show KC (k+1) _ _ _=_;rw [Zao,if_neg (Z5 hi)])
 rw [Zxt] at this
 refine Eq.trans this ?_
 cases VM ltm l<;>rfl
theorem ZEn (l:List ZbD) (hl:l.length < 2^63):ZBb (l.map Zi)=some (l.all K9&&VM ltm l):=by
 rw [ZsU,ZpV l hl,Option.bind_some,List.length_map,ZqH l hl,Option.bind_some]
 cases l.all K9<;>rfl
def lta:Ans→Ans→Bool:=fun a b=>decide (a.op < b.op)
theorem ZDu (x:Ans):ZAg x.op x.err=some (!Zbz x):=by
 rw [Zt1]
 simp only [s92,Option.bind_some]
 repeat' split
 all_goals (refine congrArg some ?_;rw [Zw];simp only [Zbz,CQ] at * <;> grind)
theorem ZpX (l:List Ans) (hl:l.length < 2^63):∃ r,Zgn (l.map Zy)=some r∧cop .geq r 0 = !(l.all Zbz):=by
 rw [Zjp,List.length_map]
 have:=YE (F:=fun k i=>Kp k (l.map Zy) (l.length:Int) i) (n:=l.length) (fun i=>!atB Zbz l i) hl
  (fun k i hi=>by
   show Kp (k+1) _ _ _=_
   rw [Zar,if_pos (Z6 hi)]
   refine (YB hi _).trans ?_
   simp only [d2,d4,d8,d16]
   rw [ZDu l[i],Option.bind_some,Z1 hi hl,Yg _ hi])
  (fun k i hi=>by show Kp (k+1) _ _ _=_;rw [Zar,if_neg (Z5 hi)])
 rw [V4] at this
 exact this
theorem Zqi (l:List Ans) (hl:l.length < 2^63):Zge (l.map Zy)=some (!(l.all Zbz)):=by
 obtain ⟨r,h1,h2⟩:=ZpX l hl
 rw [Zjn,h1,Option.bind_some,h2]
theorem ZED (l:List Ans) {j:Nat} (hj:j+1 < l.length):ZA5 (j:Int) ((j+1:Nat):Int) (l.map Zy)=some (lta l[j] l[j+1],l.map Zy):=by
 rw [ZtL]
 refine (YB (show j < l.length by omega) _).trans ?_
 refine (YB hj _).trans ?_
 simp only [d2,d4,d8,d16]
 rfl
theorem Zo7 (l:List Ans) (hl:l.length < 2^63):ZfV (l.length:Int) (l.map Zy)=some (VM lta l,l.map Zy):=by
 rw [Zjb]
 have:=JA (F:=fun k i=>KE k (l.length:Int) i (l.map Zy)) (n:=l.length) (fin:=some (true,l.map Zy)) (bad:=some (false,l.map Zy)) (Zih lta l) hl 1 (by omega)
  (fun k i h1 hi=>by
   obtain ⟨j,rfl⟩:∃ j,i=j+1:=⟨i-1,by omega⟩
   show KE (k+1) _ _ _=_
   rw [Zbf,if_pos (Z6 hi),Zof (by omega),ZED l hi,Option.bind_some,Z1 hi hl,WY _ hi]
   cases lta l[j] l[j+1]<;>rfl)
  (fun k i hi=>by show KE (k+1) _ _ _=_;rw [Zbf,if_neg (Z5 hi)])
 rw [Zxt] at this
 refine Eq.trans this ?_
 cases VM lta l<;>rfl
theorem ZDA (l:List Ans) (hl:l.length < 2^63):ZCC (l.map Zy)=some (l.all Zbz&&VM lta l):=by
 rw [Zr7,Zqi l hl,Option.bind_some,List.length_map,Zo7 l hl,Option.bind_some]
 cases l.all Zbz<;>rfl
def lte:ZD→ZD→Bool:=fun a b=>ZyF a.node.id b.node.id
theorem ZDU (x:ZD) (hx:x.node.path.length < 2^63):ZAc x.core x.slot x.node.id.core x.node.id.op x.node.id.part (Zb x.node.path) x.node.cap.kind x.node.cap.base x.node.cap.bits x.node.cap.rights x.node.cap.width x.node.cap.level x.node.cap.device=some (!ZaQ x):=by
 rw [Ztv]
 simp only [s34,s96,s95 _ hx,Option.bind_some]
 repeat' split
 all_goals (refine congrArg some ?_;rw [Zw];simp only [ZaQ,CQ] at * <;> grind)
theorem Zqe (l:List ZD) (hl:l.length < 2^63) (hp:∀ x∈l,x.node.path.length < 2^63):∃ r,Ze7 (l.map Zf)=some r∧cop .geq r 0 = !(l.all ZaQ):=by
 rw [Zjy,List.length_map]
 have:=YE (F:=fun k i=>Ks k (l.map Zf) (l.length:Int) i) (n:=l.length) (fun i=>!atB ZaQ l i) hl
  (fun k i hi=>by
   show Ks (k+1) _ _ _=_
   rw [ZaR,if_pos (Z6 hi)]
   refine (Zo hi _).trans ?_
   simp only [Yl,d2,d4,d8,d16]
   rw [ZDU l[i] (hp _ (List.getElem_mem hi)),Option.bind_some,Z1 hi hl,Yg _ hi])
  (fun k i hi=>by show Ks (k+1) _ _ _=_;rw [ZaR,if_neg (Z5 hi)])
 rw [V4] at this
 exact this
theorem ZqQ (l:List ZD) (hl:l.length < 2^63) (hp:∀ x∈l,x.node.path.length < 2^63):Zfv (l.map Zf)=some (!(l.all ZaQ)):=by
 obtain ⟨r,h1,h2⟩:=Zqe l hl hp
 rw [Zjr,h1,Option.bind_some,h2]
theorem ZEP (l:List ZD) {j:Nat} (hj:j+1 < l.length):ZCx (j:Int) ((j+1:Nat):Int) (l.map Zf)=some (lte l[j] l[j+1],l.map Zf):=by
 rw [Ztu]
 refine (Zo (show j < l.length by omega) _).trans ?_
 refine (Zo hj _).trans ?_
 simp only [Yl,d2,d4,d8,d16]
 rw [ZC4,Option.bind_some];rfl
theorem Zpz (l:List ZD) (hl:l.length < 2^63):Zgo (l.length:Int) (l.map Zf)=some (VM lte l,l.map Zf):=by
 rw [ZjJ]
 have:=JA (F:=fun k i=>Kr k (l.length:Int) i (l.map Zf)) (n:=l.length) (fin:=some (true,l.map Zf)) (bad:=some (false,l.map Zf)) (Zih lte l) hl 1 (by omega)
  (fun k i h1 hi=>by
   obtain ⟨j,rfl⟩:∃ j,i=j+1:=⟨i-1,by omega⟩
   show Kr (k+1) _ _ _=_
   rw [Zba,if_pos (Z6 hi),Zof (by omega),ZEP l hi,Option.bind_some,Z1 hi hl,WY _ hi]
   cases lte l[j] l[j+1]<;>rfl)
  (fun k i hi=>by show Kr (k+1) _ _ _=_;rw [Zba,if_neg (Z5 hi)])
 rw [Zxt] at this
 refine Eq.trans this ?_
 cases VM lte l<;>rfl
theorem ZEi (l:List ZD) (hl:l.length < 2^63) (hp:∀ x∈l,x.node.path.length < 2^63):ZCp (l.map Zf)=some (l.all ZaQ&&VM lte l):=by
 rw [Zsx,ZqQ l hl hp,Option.bind_some,List.length_map,Zpz l hl,Option.bind_some]
 cases l.all ZaQ<;>rfl
theorem ZDZ (x:Id):ZCe x.core x.op x.part=some (!ZdQ x):=by
 rw [Zuj,s91,Option.bind_some]
theorem Zpt (l:List Id) (hl:l.length < 2^63):∃ r,Zfo (Zb l)=some r∧cop .geq r 0 = !(l.all ZdQ):=by
 rw [Zjz,ZU]
 have:=YE (F:=fun k i=>Ku k (Zb l) (l.length:Int) i) (n:=l.length) (fun i=>!atB ZdQ l i) hl
  (fun k i hi=>by
   show Ku (k+1) _ _ _=_
   rw [Za9,if_pos (Z6 hi)]
   refine (ZaP hi _).trans ?_
   dsimp only
   rw [ZDZ l[i],Option.bind_some,Z1 hi hl,Yg _ hi])
  (fun k i hi=>by show Ku (k+1) _ _ _=_;rw [Za9,if_neg (Z5 hi)])
 rw [V4] at this
 exact this
theorem Zte (l:List Id) (hl:l.length < 2^63):Zjx (Zb l)=some (!(l.all ZdQ)):=by
 obtain ⟨r,h1,h2⟩:=Zpt l hl
 rw [ZlI,h1,Option.bind_some,h2]
def YC (s:Jv):Bool:=VY s.slots&&(s.pending.all K8&&VM ltp s.pending)&&(s.marks.all K9&&VM ltm s.marks)&&(s.answers.all Zbz&&VM lta s.answers)&&(s.entries.all ZaQ&&VM lte s.entries)&&s.commits.all ZdQ
structure Jv.Fits (s:Jv):Prop where
 slots:s.slots.length < 2^63
 pending:s.pending.length < 2^63
 marks:s.marks.length < 2^63
 answers:s.answers.length < 2^63
 entries:s.entries.length < 2^63
 commits:s.commits.length < 2^63
 slot:∀ x∈s.slots,x.node.path.length < 2^63
 req:∀ x∈s.pending,x.src.path.length < 2^63
 entry:∀ x∈s.entries,x.node.path.length < 2^63
theorem Zz0 (s:Jv) (h:s.Fits):Zxg (s.slots.map Zh) (s.pending.map Zt) (s.marks.map Zi) (s.answers.map Zy) (s.entries.map Zf) (Zb s.commits)=some (YC s):=by
 rw [Zur,ZES _ h.slots h.slot,Option.bind_some,ZDI _ h.pending h.req,Option.bind_some,ZEn _ h.marks,Option.bind_some,ZDA _ h.answers,Option.bind_some,ZEi _ h.entries h.entry,Option.bind_some,Zte _ h.commits,Option.bind_some]
 unfold YC
 cases VY s.slots<;>cases (s.pending.all K8&&VM ltp s.pending)<;>cases (s.marks.all K9&&VM ltm s.marks)<;>cases (s.answers.all Zbz&&VM lta s.answers)<;>cases (s.entries.all ZaQ&&VM lte s.entries)<;>cases s.commits.all ZdQ<;>rfl
end Go.Proofs.YtjldbnbdcmfbmaaGreat
end

section
namespace Go.Proofs.YtjldbnbdcmfbmaaGreat
open Go Go.AM
set_option linter.unusedSimpArgs false
set_option linter.unusedVariables false
set_option maxRecDepth 100000
theorem ZDb {n:Nat} (h:n≤maxLen):n < 2^63:=by
 have:maxLen+1=2^63:=by decide
 omega
end Go.Proofs.YtjldbnbdcmfbmaaGreat
end

section
namespace Go.Proofs.YtjldbnbdcmfbmaaGreat
open Go Go.AM
set_option linter.unusedSimpArgs false
set_option linter.unusedVariables false
set_option maxRecDepth 100000
theorem Z4 (l:List Int):(Za l).length=l.length:=by simp [Za]
theorem Zmv (l:List Int) (n:Nat):(Za l).take n=Za (l.take n):=by simp [Za,List.map_take]
def YQ (z:Int):Bool:=decide (0≤z∧z≤1073741824)
def V3 (m:Zff):Bool:=Yc m.region&&Jh m.to
theorem s33 (z:Int):g33 z=some (YQ z):=by
 rw [Zxr]
 repeat' split
 all_goals (refine congrArg some ?_;rw [Zw];simp only [YQ,CQ] at *; omega)
theorem s94 (x:J4) (hx:x.path.length < 2^63):g94 x.id.core x.id.op x.id.part (Zb x.path) x.cap.kind x.cap.base x.cap.bits x.cap.rights x.cap.width x.cap.level x.cap.device=some (!ZR x):=by
 rw [Zvs,s95 x hx,Option.bind_some]
theorem ZsH (l:List J4) (hl:l.length < 2^63) (hp:∀ x∈l,x.path.length < 2^63):∃ r,Ziv (l.map ZT)=some r∧cop .geq r 0 = !(l.all ZR):=by
 rw [ZlL,List.length_map]
 have:=YE (F:=fun k i=>Vi k (l.map ZT) (l.length:Int) i) (n:=l.length) (fun i=>!atB ZR l i) hl
  (fun k i hi=>by
   show Vi (k+1) _ _ _=_
   rw [ZbQ,if_pos (Z6 hi)]
   refine (KG hi _).trans ?_
   simp only [ZlO,d2,d4,d8,d16]
   rw [s94 l[i] (hp _ (List.getElem_mem hi)),Option.bind_some,Z1 hi hl,Yg _ hi])
  (fun k i hi=>by show Vi (k+1) _ _ _=_;rw [ZbQ,if_neg (Z5 hi)])
 rw [V4] at this
 exact this
theorem ZvD (l:List J4) (hl:l.length < 2^63) (hp:∀ x∈l,x.path.length < 2^63):ZeG (l.map ZT)=some (!(l.all ZR)):=by
 obtain ⟨r,h1,h2⟩:=ZsH l hl hp
 rw [ZoH,h1,Option.bind_some,h2]
theorem s98 (x:Id):g98 x.core x.op x.part=some (!VA x):=by
 rw [Zyn,s99,Option.bind_some,ZbV]
theorem ZrW (l:List Id) (hl:l.length < 2^63):∃ r,Zix (Zb l)=some r∧cop .geq r 0 = !(l.all VA):=by
 rw [Zmg,ZU]
 have:=YE (F:=fun k i=>Vd k (Zb l) (l.length:Int) i) (n:=l.length) (fun i=>!atB VA l i) hl
  (fun k i hi=>by
   show Vd (k+1) _ _ _=_
   rw [ZbL,if_pos (Z6 hi)]
   refine (ZaP hi _).trans ?_
   dsimp only
   rw [s98 l[i],Option.bind_some,Z1 hi hl,Yg _ hi])
  (fun k i hi=>by show Vd (k+1) _ _ _=_;rw [ZbL,if_neg (Z5 hi)])
 rw [V4] at this
 exact this
theorem Zya (l:List Id) (hl:l.length < 2^63):ZkP (Zb l)=some (!(l.all VA)):=by
 obtain ⟨r,h1,h2⟩:=ZrW l hl
 rw [ZoI,h1,Option.bind_some,h2]
theorem ZDz (x:Int):ZzN x=some (!Jh x):=by
 rw [ZsF,s34,Option.bind_some]
theorem Zp2 (l:List Int) (hl:l.length < 2^63):∃ r,ZfP (Za l)=some r∧cop .geq r 0 = !(l.all Jh):=by
 rw [ZiX,Z4]
 have:=YE (F:=fun k i=>KF k (Za l) (l.length:Int) i) (n:=l.length) (fun i=>!atB Jh l i) hl
  (fun k i hi=>by
   show KF (k+1) _ _ _=_
   rw [ZaJ,if_pos (Z6 hi)]
   refine (Z3 hi _).trans ?_
   skip
   rw [ZDz l[i],Option.bind_some,Z1 hi hl,Yg _ hi])
  (fun k i hi=>by show KF (k+1) _ _ _=_;rw [ZaJ,if_neg (Z5 hi)])
 rw [V4] at this
 exact this
theorem ZpE (l:List Int) (hl:l.length < 2^63):Zci (Za l)=some (!(l.all Jh)):=by
 obtain ⟨r,h1,h2⟩:=Zp2 l hl
 rw [ZjH,h1,Option.bind_some,h2]
theorem ZDv (x:Int):ZCh x=some (!Jh x):=by
 rw [Ztq,s34,Option.bind_some]
theorem Zpy (l:List Int) (hl:l.length < 2^63):∃ r,ZfQ (Za l)=some r∧cop .geq r 0 = !(l.all Jh):=by
 rw [ZiP,Z4]
 have:=YE (F:=fun k i=>Ky k (Za l) (l.length:Int) i) (n:=l.length) (fun i=>!atB Jh l i) hl
  (fun k i hi=>by
   show Ky (k+1) _ _ _=_
   rw [ZaB,if_pos (Z6 hi)]
   refine (Z3 hi _).trans ?_
   skip
   rw [ZDv l[i],Option.bind_some,Z1 hi hl,Yg _ hi])
  (fun k i hi=>by show Ky (k+1) _ _ _=_;rw [ZaB,if_neg (Z5 hi)])
 rw [V4] at this
 exact this
theorem Zp8 (l:List Int) (hl:l.length < 2^63):ZfO (Za l)=some (!(l.all Jh)):=by
 obtain ⟨r,h1,h2⟩:=Zpy l hl
 rw [Zji,h1,Option.bind_some,h2]
theorem ZDB (x:Zff):ZzO x.region x.to=some (!V3 x):=by
 rw [Zs0,s89,s34,Option.bind_some,Option.bind_some]
 unfold V3
 cases Yc x.region<;>rfl
theorem ZqR (l:List Zff) (hl:l.length < 2^63):∃ r,ZfF (l.map ZZ)=some r∧cop .geq r 0 = !(l.all V3):=by
 rw [ZjG,List.length_map]
 have:=YE (F:=fun k i=>Kx k (l.map ZZ) (l.length:Int) i) (n:=l.length) (fun i=>!atB V3 l i) hl
  (fun k i hi=>by
   show Kx (k+1) _ _ _=_
   rw [ZaO,if_pos (Z6 hi)]
   refine (Kq hi _).trans ?_
   dsimp only
   rw [ZDB l[i],Option.bind_some,Z1 hi hl,Yg _ hi])
  (fun k i hi=>by show Kx (k+1) _ _ _=_;rw [ZaO,if_neg (Z5 hi)])
 rw [V4] at this
 exact this
theorem Zqm (l:List Zff) (hl:l.length < 2^63):Zcm (l.map ZZ)=some (!(l.all V3)):=by
 obtain ⟨r,h1,h2⟩:=ZqR l hl
 rw [ZiH,h1,Option.bind_some,h2]
def ltI (a b:Int):Bool:=decide (a < b)
def Zi1 (l:List Int):Bool:=l.all Jh&&VM ltI l
theorem ZEy (l:List Int) (hl:l.length < 2^63) (a:Int):∃ r,ZCa (Za l) a=some r∧cop .geq r 0=l.any (fun x=>decide (a=x)):=by
 rw [ZtN,Z4]
 have:=YE (F:=fun k i=>ZeR k (Za l) a (l.length:Int) i) (n:=l.length) (fun i=>!atB (fun x=>!decide (a=x)) l i) hl
  (fun k i hi=>by
   show ZeR (k+1) _ _ _ _=_
   rw [Zic,if_pos (Z6 hi)]
   refine (Z3 hi _).trans ?_
   rw [Z1 hi hl,Yg _ hi,Bool.not_not]
   rfl)
  (fun k i hi=>by show ZeR (k+1) _ _ _ _=_;rw [Zic,if_neg (Z5 hi)])
 rw [V4] at this
 have e:(!(l.all fun x=>!decide (a=x)))=l.any (fun x=>decide (a=x)):=by
  rw [List.any_eq_not_all_not]
 rw [e] at this
 exact this
theorem ZEO (l:List Int) (hl:l.length < 2^63) (a:Int):ZzJ (Za l) a=some (l.any (fun x=>decide (a=x))):=by
 obtain ⟨r,h1,h2⟩:=ZEy l hl a
 rw [ZsR,h1,Option.bind_some,h2]
theorem s79 (l:List Int) (hl:l.length < 2^63) (a:Int):g79 (Za l) a=some (l.any (fun x=>decide (a=x))):=by
 rw [Zv7]
 have:=JA (F:=fun k i=>ZiN k (Za l) a i) (n:=l.length) (fin:=some false) (bad:=some true) (atB (fun x=>!decide (a=x)) l) hl 0 (by omega)
  (fun k i _ hi=>by
   show ZiN (k+1) (Za l) _ _=_
   rw [Zj9,Z4,if_pos (Z6 hi)]
   refine (Z3 hi _).trans ?_
   rw [Z1 hi hl,Yg _ hi]
   generalize ZiN k (Za l) a ((i+1:Nat):Int)=X
   generalize l[i]=t
   by_cases h:a=t
   ·rw [if_pos (by simp only [CQ];exact h.symm),if_neg (by simp [h])]
   ·rw [if_neg (by simp only [CQ];exact fun he=>h he.symm),if_pos (by simp [h])])
  (fun k i hi=>by show ZiN (k+1) (Za l) _ _=_;rw [Zj9,Z4,if_neg (Z5 hi)])
 rw [Nat.sub_zero,Zk9] at this
 refine Eq.trans this ?_
 rw [List.any_eq_not_all_not]
 cases l.all (fun x=>!decide (a=x))<;>rfl
def Zht (l:List Int) (i:Nat):Bool:=match l[i]? with | some x=>!((l.take i).any (fun y=>decide (x=y))) | none=>true
def V1 (v:Vu):Bool:=YQ v.number&&decide (v.members.length≤32)&&decide (v.owners.length≤16)&&(List.range' 0 v.members.length).all (fun i=>atB Jh v.members i&&Zht v.members i)&&v.owners.all Jh
theorem ZmK {l:List Int} {i:Nat} (hi:i < l.length):Zht l i = !((l.take i).any (fun y=>decide (l[i]=y))):=by
 unfold Zht;rw [List.getElem?_eq_getElem hi]
theorem ZA7 (v:Vu) (h1:v.members.length < 2^63) (h2:v.owners.length < 2^63):Zyj v.number (Za v.members) (Za v.owners)=some (V1 v):=by
 rw [ZsE,Z4,Z4,s33,Option.bind_some]
 have:=JA (F:=fun k i=>Zdx k v.number (Za v.members) (Za v.owners) (Za v.members) (v.members.length:Int) i) (n:=v.members.length) (fin:=some (v.owners.all Jh)) (bad:=some false) (fun i=>atB Jh v.members i&&Zht v.members i) h1 0 (by omega)
  (fun k i _ hi=>by
   show Zdx (k+1) _ _ _ _ _ _=_
   rw [Zil,if_pos (Z6 hi)]
   refine (Z3 hi _).trans ?_
   rw [s34,Option.bind_some,Zj (by omega),Zj (by rw [Z4];omega),Int.toNat_natCast,Zmv,ZEO _ (by rw [List.length_take];omega),Option.bind_some,Z1 hi h1,Yg _ hi,ZmK hi]
   cases Jh v.members[i]<;>cases (v.members.take i).any (fun y=>decide (v.members[i]=y))<;>rfl)
  (fun k i hi=>by
   show Zdx (k+1) _ _ _ _ _ _=_
   rw [Zil,if_neg (Z5 hi),Zp8 _ h2,Option.bind_some,Bool.not_not])
 rw [Nat.sub_zero] at this
 have this:Zdx ZB v.number (Za v.members) (Za v.owners) (Za v.members) (v.members.length:Int) 0=_:=this
 rw [this]
 unfold V1
 by_cases a1:v.members.length≤32
 ·by_cases a2:v.owners.length≤16
  ·rw [if_neg (show ¬ (cop .gtr (v.members.length:Int) 32)=true by simp only [CQ];omega),if_neg (show ¬ (cop .gtr (v.owners.length:Int) 16)=true by simp only [CQ];omega),decide_eq_true a1,decide_eq_true a2]
   cases YQ v.number<;>cases (List.range' 0 v.members.length).all (fun i=>atB Jh v.members i&&Zht v.members i)<;>rfl
  ·rw [if_neg (show ¬ (cop .gtr (v.members.length:Int) 32)=true by simp only [CQ];omega),if_pos (show (cop .gtr (v.owners.length:Int) 16)=true by simp only [CQ];omega),decide_eq_false a2]
   cases YQ v.number<;>simp
 ·rw [if_pos (show (cop .gtr (v.members.length:Int) 32)=true by simp only [CQ];omega),decide_eq_false a1]
  cases YQ v.number<;>simp
structure Vu.Fits (v:Vu):Prop where
 members:v.members.length < 2^63
 owners:v.owners.length < 2^63
structure Jl.Fits (r:Jl):Prop where
 view:r.view.Fits
 state:r.state.Fits
 next:r.next.Fits
 proposal:r.proposal.Fits
def Zfd (r:Jl):Bool:=Jh r.core&&V1 r.view&&YC r.state&&V1 r.next&&YC r.proposal
theorem ZD4 (r:Jl) (h:r.Fits):Zz3 r.core r.view.number (Za r.view.members) (Za r.view.owners) (r.state.slots.map Zh) (r.state.pending.map Zt) (r.state.marks.map Zi) (r.state.answers.map Zy) (r.state.entries.map Zf) (Zb r.state.commits) r.ready r.next.number (Za r.next.members) (Za r.next.owners) (r.proposal.slots.map Zh) (r.proposal.pending.map Zt) (r.proposal.marks.map Zi) (r.proposal.answers.map Zy) (r.proposal.entries.map Zf) (Zb r.proposal.commits)=some (Zfd r):=by
 rw [Zs3,s34,Option.bind_some,ZA7 _ h.view.members h.view.owners,Option.bind_some,Zz0 _ h.state,Option.bind_some,ZA7 _ h.next.members h.next.owners,Option.bind_some,Zz0 _ h.proposal,Option.bind_some]
 unfold Zfd
 cases Jh r.core<;>cases V1 r.view<;>cases YC r.state<;>cases V1 r.next<;>cases YC r.proposal<;>rfl
end Go.Proofs.YtjldbnbdcmfbmaaGreat
end

section
namespace Go.Proofs.YtjldbnbdcmfbmaaGreat
open Go Go.AM
set_option linter.unusedSimpArgs false
set_option linter.unusedVariables false
set_option maxRecDepth 100000
structure Msg where
 kind:Int
 view:Int
 frm:Int
 to:Int
 round:Int
 region:Int
 slot:Int
 op:Id
 err:Int
 settled:Bool
 req:Req
 ids:List Id
 nodes:List J4
 cores:List Int
 moves:List Zff
 base:Int
 next:Vu
 state:Jv
 report:Jl
structure Msg.Fits (m:Msg):Prop where
 req:m.req.src.path.length < 2^63
 ids:m.ids.length < 2^63
 nodes:m.nodes.length < 2^63
 node:∀ x∈m.nodes,x.path.length < 2^63
 cores:m.cores.length < 2^63
 moves:m.moves.length < 2^63
 next:m.next.Fits
 state:m.state.Fits
 report:m.report.Fits
def Zrh (m:Msg):Qt5:=(m.kind,m.view,m.frm,m.to,m.round,m.region,m.slot,m.op.core,m.op.op,m.op.part,m.err,m.settled,m.req.id.core,m.req.id.op,m.req.id.part,m.req.call.kind,m.req.call.slot,m.req.call.dest,m.req.call.core,m.req.call.mask,m.req.call.object,m.req.call.bits,m.req.call.level,m.req.call.offset,m.req.call.count,m.req.call.index,m.req.call.addr,m.req.region,m.req.width,m.req.src.id.core,m.req.src.id.op,m.req.src.id.part,(Zb m.req.src.path),m.req.src.cap.kind,m.req.src.cap.base,m.req.src.cap.bits,m.req.src.cap.rights,m.req.src.cap.width,m.req.src.cap.level,m.req.src.cap.device,(Zb m.ids),(m.nodes.map ZT),(Za m.cores),(m.moves.map ZZ),m.base,m.next.number,(Za m.next.members),(Za m.next.owners),(m.state.slots.map Zh),(m.state.pending.map Zt),(m.state.marks.map Zi),(m.state.answers.map Zy),(m.state.entries.map Zf),(Zb m.state.commits),m.report.core,m.report.view.number,(Za m.report.view.members),(Za m.report.view.owners),(m.report.state.slots.map Zh),(m.report.state.pending.map Zt),(m.report.state.marks.map Zi),(m.report.state.answers.map Zy),(m.report.state.entries.map Zf),(Zb m.report.state.commits),m.report.ready,m.report.next.number,(Za m.report.next.members),(Za m.report.next.owners),(m.report.proposal.slots.map Zh),(m.report.proposal.pending.map Zt),(m.report.proposal.marks.map Zi),(m.report.proposal.answers.map Zy),(m.report.proposal.entries.map Zf),(Zb m.report.proposal.commits))
def ZqT:Call:=⟨0,0,0,0,0,0,0,0,0,0,0,0⟩
def Jg:Req:=⟨zid,ZqT,0,0,ZS⟩
def ZQ:Vu:=⟨0,[],[]⟩
def Zq:Jv:=⟨[],[],[],[],[],[]⟩
def Zu:Jl:=⟨0,ZQ,Zq,false,ZQ,Zq⟩
def clr (m:Msg):Nat→Msg
 | 0 => { m with region := 0 }
 | 1 => { m with req := Jg }
 | 2 => { m with op := zid }
 | 3 => { m with err := 0 }
 | 4 => { m with settled := false }
 | 5 => { m with nodes := [] }
 | 6 => { m with slot := 0 }
 | 7 => { m with ids := [] }
 | 8 => { m with round := 0 }
 | 9 => { m with cores := [] }
 | 10 => { m with report := Zu }
 | 11 => { m with base := 0 }
 | 12 => { m with next := ZQ }
 | 13 => { m with state := Zq }
 | 14 => { m with moves := [] }
 | _ => m
theorem s36 (m:Msg):∀ f:Nat,f < 15→g36 m.kind m.view m.frm m.to m.round m.region m.slot m.op.core m.op.op m.op.part m.err m.settled m.req.id.core m.req.id.op m.req.id.part m.req.call.kind m.req.call.slot m.req.call.dest m.req.call.core m.req.call.mask m.req.call.object m.req.call.bits m.req.call.level m.req.call.offset m.req.call.count m.req.call.index m.req.call.addr m.req.region m.req.width m.req.src.id.core m.req.src.id.op m.req.src.id.part (Zb m.req.src.path) m.req.src.cap.kind m.req.src.cap.base m.req.src.cap.bits m.req.src.cap.rights m.req.src.cap.width m.req.src.cap.level m.req.src.cap.device (Zb m.ids) (m.nodes.map ZT) (Za m.cores) (m.moves.map ZZ) m.base m.next.number (Za m.next.members) (Za m.next.owners) (m.state.slots.map Zh) (m.state.pending.map Zt) (m.state.marks.map Zi) (m.state.answers.map Zy) (m.state.entries.map Zf) (Zb m.state.commits) m.report.core m.report.view.number (Za m.report.view.members) (Za m.report.view.owners) (m.report.state.slots.map Zh) (m.report.state.pending.map Zt) (m.report.state.marks.map Zi) (m.report.state.answers.map Zy) (m.report.state.entries.map Zf) (Zb m.report.state.commits) m.report.ready m.report.next.number (Za m.report.next.members) (Za m.report.next.owners) (m.report.proposal.slots.map Zh) (m.report.proposal.pending.map Zt) (m.report.proposal.marks.map Zi) (m.report.proposal.answers.map Zy) (m.report.proposal.entries.map Zf) (Zb m.report.proposal.commits) (f:Int)=some (Zrh (clr m f))
 | 0, _ => by rw [KQ]; rfl
 | 1, _ => by rw [KQ]; rfl
 | 2, _ => by rw [KQ]; rfl
 | 3, _ => by rw [KQ]; rfl
 | 4, _ => by rw [KQ]; rfl
 | 5, _ => by rw [KQ]; rfl
 | 6, _ => by rw [KQ]; rfl
 | 7, _ => by rw [KQ]; rfl
 | 8, _ => by rw [KQ]; rfl
 | 9, _ => by rw [KQ]; rfl
 | 10, _ => by rw [KQ]; rfl
 | 11, _ => by rw [KQ]; rfl
 | 12, _ => by rw [KQ]; rfl
 | 13, _ => by rw [KQ]; rfl
 | 14, _ => by rw [KQ]; rfl
theorem ZD2 (m:Msg) {j:Nat} (hj:j+1 < m.cores.length):ZAl (j:Int) ((j+1:Nat):Int) m.kind m.view m.frm m.to m.round m.region m.slot m.op.core m.op.op m.op.part m.err m.settled m.req.id.core m.req.id.op m.req.id.part m.req.call.kind m.req.call.slot m.req.call.dest m.req.call.core m.req.call.mask m.req.call.object m.req.call.bits m.req.call.level m.req.call.offset m.req.call.count m.req.call.index m.req.call.addr m.req.region m.req.width m.req.src.id.core m.req.src.id.op m.req.src.id.part (Zb m.req.src.path) m.req.src.cap.kind m.req.src.cap.base m.req.src.cap.bits m.req.src.cap.rights m.req.src.cap.width m.req.src.cap.level m.req.src.cap.device (Zb m.ids) (m.nodes.map ZT) (Za m.cores) (m.moves.map ZZ) m.base m.next.number (Za m.next.members) (Za m.next.owners) (m.state.slots.map Zh) (m.state.pending.map Zt) (m.state.marks.map Zi) (m.state.answers.map Zy) (m.state.entries.map Zf) (Zb m.state.commits) m.report.core m.report.view.number (Za m.report.view.members) (Za m.report.view.owners) (m.report.state.slots.map Zh) (m.report.state.pending.map Zt) (m.report.state.marks.map Zi) (m.report.state.answers.map Zy) (m.report.state.entries.map Zf) (Zb m.report.state.commits) m.report.ready m.report.next.number (Za m.report.next.members) (Za m.report.next.owners) (m.report.proposal.slots.map Zh) (m.report.proposal.pending.map Zt) (m.report.proposal.marks.map Zi) (m.report.proposal.answers.map Zy) (m.report.proposal.entries.map Zf) (Zb m.report.proposal.commits)=some (ltI m.cores[j] m.cores[j+1],Zrh m):=by
 rw [Zuv]
 refine (Z3 (show j < m.cores.length by omega) _).trans ?_
 refine (Z3 hj _).trans ?_
 rfl
theorem ZpD (m:Msg) (h:m.Fits):Zb6 (m.cores.length:Int) m.kind m.view m.frm m.to m.round m.region m.slot m.op.core m.op.op m.op.part m.err m.settled m.req.id.core m.req.id.op m.req.id.part m.req.call.kind m.req.call.slot m.req.call.dest m.req.call.core m.req.call.mask m.req.call.object m.req.call.bits m.req.call.level m.req.call.offset m.req.call.count m.req.call.index m.req.call.addr m.req.region m.req.width m.req.src.id.core m.req.src.id.op m.req.src.id.part (Zb m.req.src.path) m.req.src.cap.kind m.req.src.cap.base m.req.src.cap.bits m.req.src.cap.rights m.req.src.cap.width m.req.src.cap.level m.req.src.cap.device (Zb m.ids) (m.nodes.map ZT) (Za m.cores) (m.moves.map ZZ) m.base m.next.number (Za m.next.members) (Za m.next.owners) (m.state.slots.map Zh) (m.state.pending.map Zt) (m.state.marks.map Zi) (m.state.answers.map Zy) (m.state.entries.map Zf) (Zb m.state.commits) m.report.core m.report.view.number (Za m.report.view.members) (Za m.report.view.owners) (m.report.state.slots.map Zh) (m.report.state.pending.map Zt) (m.report.state.marks.map Zi) (m.report.state.answers.map Zy) (m.report.state.entries.map Zf) (Zb m.report.state.commits) m.report.ready m.report.next.number (Za m.report.next.members) (Za m.report.next.owners) (m.report.proposal.slots.map Zh) (m.report.proposal.pending.map Zt) (m.report.proposal.marks.map Zi) (m.report.proposal.answers.map Zy) (m.report.proposal.entries.map Zf) (Zb m.report.proposal.commits)=some (VM ltI m.cores,Zrh m):=by
 rw [Zjw]
 have:=JA (F:=fun k i=>Wk k (m.cores.length:Int) i m.kind m.view m.frm m.to m.round m.region m.slot m.op.core m.op.op m.op.part m.err m.settled m.req.id.core m.req.id.op m.req.id.part m.req.call.kind m.req.call.slot m.req.call.dest m.req.call.core m.req.call.mask m.req.call.object m.req.call.bits m.req.call.level m.req.call.offset m.req.call.count m.req.call.index m.req.call.addr m.req.region m.req.width m.req.src.id.core m.req.src.id.op m.req.src.id.part (Zb m.req.src.path) m.req.src.cap.kind m.req.src.cap.base m.req.src.cap.bits m.req.src.cap.rights m.req.src.cap.width m.req.src.cap.level m.req.src.cap.device (Zb m.ids) (m.nodes.map ZT) (Za m.cores) (m.moves.map ZZ) m.base m.next.number (Za m.next.members) (Za m.next.owners) (m.state.slots.map Zh) (m.state.pending.map Zt) (m.state.marks.map Zi) (m.state.answers.map Zy) (m.state.entries.map Zf) (Zb m.state.commits) m.report.core m.report.view.number (Za m.report.view.members) (Za m.report.view.owners) (m.report.state.slots.map Zh) (m.report.state.pending.map Zt) (m.report.state.marks.map Zi) (m.report.state.answers.map Zy) (m.report.state.entries.map Zf) (Zb m.report.state.commits) m.report.ready m.report.next.number (Za m.report.next.members) (Za m.report.next.owners) (m.report.proposal.slots.map Zh) (m.report.proposal.pending.map Zt) (m.report.proposal.marks.map Zi) (m.report.proposal.answers.map Zy) (m.report.proposal.entries.map Zf) (Zb m.report.proposal.commits)) (n:=m.cores.length) (fin:=some (true,Zrh m)) (bad:=some (false,Zrh m)) (Zih ltI m.cores) h.cores 1 (by omega)
  (fun k i h1 hi=>by
   obtain ⟨j,rfl⟩:∃ j,i=j+1:=⟨i-1,by omega⟩
   refine (Za4 ..).trans ?_
   rw [if_pos (Z6 hi),Zof (by have:=h.cores;omega),ZD2 m hi,Option.bind_some,Z1 hi h.cores,WY _ hi]
   cases ltI m.cores[j] m.cores[j+1]<;>rfl)
  (fun k i hi=>by refine (Za4 ..).trans ?_;rw [if_neg (Z5 hi)];rfl)
 rw [Zxt] at this
 refine Eq.trans this ?_
 cases VM ltI m.cores<;>rfl
def ZK (m:Msg):Nat→Bool
 | 0 => Yc m.region
 | 1 => K8 m.req
 | 2 => ZdQ m.op
 | 3 => Zd1 m.err
 | 5 => decide (m.nodes.length ≤ 8) && (decide (m.kind ≠ 4) || decide (m.nodes.length = 1)) && m.nodes.all ZR
 | 6 => ZbU m.slot
 | 7 => decide (m.ids.length ≤ 64) && m.ids.all VA
 | 8 => YQ m.round
 | 9 => Zi1 m.cores
 | 10 => Zfd m.report
 | 11 => YQ m.base
 | 12 => V1 m.next
 | 13 => YC m.state
 | 14 => decide (m.moves.length ≤ 16) && m.moves.all V3
 | _ => true
theorem s35 (m:Msg) (h:m.Fits):∀ f:Nat,f < 15→g35 m.kind m.view m.frm m.to m.round m.region m.slot m.op.core m.op.op m.op.part m.err m.settled m.req.id.core m.req.id.op m.req.id.part m.req.call.kind m.req.call.slot m.req.call.dest m.req.call.core m.req.call.mask m.req.call.object m.req.call.bits m.req.call.level m.req.call.offset m.req.call.count m.req.call.index m.req.call.addr m.req.region m.req.width m.req.src.id.core m.req.src.id.op m.req.src.id.part (Zb m.req.src.path) m.req.src.cap.kind m.req.src.cap.base m.req.src.cap.bits m.req.src.cap.rights m.req.src.cap.width m.req.src.cap.level m.req.src.cap.device (Zb m.ids) (m.nodes.map ZT) (Za m.cores) (m.moves.map ZZ) m.base m.next.number (Za m.next.members) (Za m.next.owners) (m.state.slots.map Zh) (m.state.pending.map Zt) (m.state.marks.map Zi) (m.state.answers.map Zy) (m.state.entries.map Zf) (Zb m.state.commits) m.report.core m.report.view.number (Za m.report.view.members) (Za m.report.view.owners) (m.report.state.slots.map Zh) (m.report.state.pending.map Zt) (m.report.state.marks.map Zi) (m.report.state.answers.map Zy) (m.report.state.entries.map Zf) (Zb m.report.state.commits) m.report.ready m.report.next.number (Za m.report.next.members) (Za m.report.next.owners) (m.report.proposal.slots.map Zh) (m.report.proposal.pending.map Zt) (m.report.proposal.marks.map Zi) (m.report.proposal.answers.map Zy) (m.report.proposal.entries.map Zf) (Zb m.report.proposal.commits) (f:Int)=some (ZK m f)
 | 0, _ => by
   refine (KK ..).trans ?_
   exact (congrArg (fun x=>Option.bind x some) (s89 _))
 | 1, _ => by
   refine (KK ..).trans ?_
   exact (congrArg (fun x=>Option.bind x some) (s90 _ h.req))
 | 2, _ => by
   refine (KK ..).trans ?_
   exact (congrArg (fun x=>Option.bind x some) (s91 _))
 | 3, _ => by
   refine (KK ..).trans ?_
   exact (congrArg (fun x=>Option.bind x some) (s92 _))
 | 4, _ => by
   refine (KK ..).trans ?_
   rfl
 | 5, _ => by
   refine (KK ..).trans ?_
   show (if (cop .gtr ((m.nodes.map ZT).length:Int) 8)=true then some false else if (cop .eql m.kind 4)=true then (if (cop .neq ((m.nodes.map ZT).length:Int) 1)=true then some false else (ZeG (m.nodes.map ZT)).bind fun r=>some (!r)) else (ZeG (m.nodes.map ZT)).bind fun r=>some (!r))=_
   rw [List.length_map,ZvD _ h.nodes h.node]
   repeat' split
   all_goals (refine congrArg some ?_;rw [Zw];simp only [ZK,Bool.not_not,CQ] at * <;> grind)
 | 6, _ => by
   refine (KK ..).trans ?_
   exact (congrArg (fun x=>Option.bind x some) (s96 _))
 | 7, _ => by
   refine (KK ..).trans ?_
   show (if (cop .leq ((Zb m.ids).length:Int) 64)=true then (ZkP (Zb m.ids)).bind fun r=>some (!r) else some false)=_
   rw [ZU,Zya _ h.ids]
   repeat' split
   all_goals (refine congrArg some ?_;rw [Zw];simp only [ZK,Bool.not_not,CQ] at * <;> grind)
 | 8, _ => by
   refine (KK ..).trans ?_
   exact (congrArg (fun x=>Option.bind x some) (s33 _))
 | 9, _ => by
   refine (KK ..).trans ?_
   show ((Zci (Za m.cores)).bind fun (r:Bool)=>if (!r)=true then (Zb6 ((Za m.cores).length:Int) m.kind m.view m.frm m.to m.round m.region m.slot m.op.core m.op.op m.op.part m.err m.settled m.req.id.core m.req.id.op m.req.id.part m.req.call.kind m.req.call.slot m.req.call.dest m.req.call.core m.req.call.mask m.req.call.object m.req.call.bits m.req.call.level m.req.call.offset m.req.call.count m.req.call.index m.req.call.addr m.req.region m.req.width m.req.src.id.core m.req.src.id.op m.req.src.id.part (Zb m.req.src.path) m.req.src.cap.kind m.req.src.cap.base m.req.src.cap.bits m.req.src.cap.rights m.req.src.cap.width m.req.src.cap.level m.req.src.cap.device (Zb m.ids) (m.nodes.map ZT) (Za m.cores) (m.moves.map ZZ) m.base m.next.number (Za m.next.members) (Za m.next.owners) (m.state.slots.map Zh) (m.state.pending.map Zt) (m.state.marks.map Zi) (m.state.answers.map Zy) (m.state.entries.map Zf) (Zb m.state.commits) m.report.core m.report.view.number (Za m.report.view.members) (Za m.report.view.owners) (m.report.state.slots.map Zh) (m.report.state.pending.map Zt) (m.report.state.marks.map Zi) (m.report.state.answers.map Zy) (m.report.state.entries.map Zf) (Zb m.report.state.commits) m.report.ready m.report.next.number (Za m.report.next.members) (Za m.report.next.owners) (m.report.proposal.slots.map Zh) (m.report.proposal.pending.map Zt) (m.report.proposal.marks.map Zi) (m.report.proposal.answers.map Zy) (m.report.proposal.entries.map Zf) (Zb m.report.proposal.commits)).bind fun r=>some r.1 else some false)=_
   rw [ZpE _ h.cores,Z4,ZpD m h,Option.bind_some,Option.bind_some]
   show _=some (m.cores.all Jh&&VM ltI m.cores)
   cases m.cores.all Jh<;>rfl
 | 10, _ => by
   refine (KK ..).trans ?_
   exact (congrArg (fun x=>Option.bind x some) (ZD4 _ h.report))
 | 11, _ => by
   refine (KK ..).trans ?_
   exact (congrArg (fun x=>Option.bind x some) (s33 _))
 | 12, _ => by
   refine (KK ..).trans ?_
   exact (congrArg (fun x=>Option.bind x some) (ZA7 _ h.next.members h.next.owners))
 | 13, _ => by
   refine (KK ..).trans ?_
   exact (congrArg (fun x=>Option.bind x some) (Zz0 _ h.state))
 | 14, _ => by
   refine (KK ..).trans ?_
   show (if (cop .leq ((m.moves.map ZZ).length:Int) 16)=true then (Zcm (m.moves.map ZZ)).bind fun r=>some (!r) else some false)=_
   rw [List.length_map,Zqm _ h.moves]
   repeat' split
   all_goals (refine congrArg some ?_;rw [Zw];simp only [ZK,Bool.not_not,CQ] at * <;> grind)
def ZtW (r:Req):Bool:=decide (r.id=zid)&&decide (r.call.kind=0∧r.call.slot=0∧r.call.dest=0∧r.call.core=0∧r.call.mask=0∧r.call.object=0∧r.call.bits=0∧r.call.level=0∧r.call.offset=0∧r.call.count=0∧r.call.index=0∧r.call.addr=0)&&decide (r.region=0)&&decide (r.width=0)&&K3 r.src ZS
def Zcz (v:Vu):Bool:=decide (v.number=0)&&decide (v.members.length=0)&&decide (v.owners.length=0)
def WE (s:Jv):Bool:=decide (s.slots.length=0)&&decide (s.pending.length=0)&&decide (s.marks.length=0)&&decide (s.answers.length=0)&&decide (s.entries.length=0)&&decide (s.commits.length=0)
def W5 (r:Jl):Bool:=decide (r.core=0)&&Zcz r.view&&WE r.state&&!r.ready&&Zcz r.next&&WE r.proposal
theorem Zmo (n:Nat):cop .eql (n:Int) 0=decide (n=0):=by rw [Zw];simp only [CQ];omega
theorem ZsV (z:Int):cop .eql z 0=decide (z=0):=rfl
theorem ZEN (r:Req) (h:r.src.path.length < 2^63):ZBv r.id.core r.id.op r.id.part r.call.kind r.call.slot r.call.dest r.call.core r.call.mask r.call.object r.call.bits r.call.level r.call.offset r.call.count r.call.index r.call.addr r.region r.width r.src.id.core r.src.id.op r.src.id.part (Zb r.src.path) r.src.cap.kind r.src.cap.base r.src.cap.bits r.src.cap.rights r.src.cap.width r.src.cap.level r.src.cap.device=some (ZtW r):=by
 rw [Zup,Zru _ h,Option.bind_some]
 simp only [Wd,ZbV]
 unfold ZtW
 repeat' split
 all_goals (refine congrArg some ?_;rw [Zw];simp only [CQ] at * <;> grind)
theorem ZBc (v:Vu):ZwZ v.number (Za v.members) (Za v.owners)=some (Zcz v):=by
 rw [ZtB,Z4,Z4,Zmo,Zmo,ZsV]
 unfold Zcz
 cases decide (v.number=0)<;>cases decide (v.members.length=0)<;>rfl
theorem ZCc (s:Jv):Zv2 (s.slots.map Zh) (s.pending.map Zt) (s.marks.map Zi) (s.answers.map Zy) (s.entries.map Zf) (Zb s.commits)=some (WE s):=by
 rw [Zt6,List.length_map,List.length_map,List.length_map,List.length_map,List.length_map,ZU,Zmo,Zmo,Zmo,Zmo,Zmo,Zmo]
 unfold WE
 cases decide (s.slots.length=0)<;>cases decide (s.pending.length=0)<;>cases decide (s.marks.length=0)<;>cases decide (s.answers.length=0)<;>cases decide (s.entries.length=0)<;>rfl
theorem ZDW (r:Jl):ZBr r.core r.view.number (Za r.view.members) (Za r.view.owners) (r.state.slots.map Zh) (r.state.pending.map Zt) (r.state.marks.map Zi) (r.state.answers.map Zy) (r.state.entries.map Zf) (Zb r.state.commits) r.ready r.next.number (Za r.next.members) (Za r.next.owners) (r.proposal.slots.map Zh) (r.proposal.pending.map Zt) (r.proposal.marks.map Zi) (r.proposal.answers.map Zy) (r.proposal.entries.map Zf) (Zb r.proposal.commits)=some (W5 r):=by
 rw [Zud,ZBc,ZCc,ZBc,ZCc,ZsV,Option.bind_some,Option.bind_some,Option.bind_some,Option.bind_some]
 unfold W5
 cases decide (r.core=0)<;>cases Zcz r.view<;>cases WE r.state<;>cases r.ready<;>cases Zcz r.next<;>rfl
def zf (m:Msg):Nat→Bool
 | 0 => decide (m.region = 0)
 | 1 => ZtW m.req
 | 2 => decide (m.op = zid)
 | 3 => decide (m.err = 0)
 | 4 => !m.settled
 | 5 => decide (m.nodes.length = 0)
 | 6 => decide (m.slot = 0)
 | 7 => decide (m.ids.length = 0)
 | 8 => decide (m.round = 0)
 | 9 => decide (m.cores.length = 0)
 | 10 => W5 m.report
 | 11 => decide (m.base = 0)
 | 12 => Zcz m.next
 | 13 => WE m.state
 | 14 => decide (m.moves.length = 0)
 | _ => true
def ZBI (m:Msg):Bool:=(List.range 15).all (zf m)
theorem Js (b:Bool) {y:Bool} {x:Option Bool} (h:x=some y):(if b=true then x else some false)=some (b&&y):=by cases b<;>simp [h]
theorem s37 (m:Msg) (h:m.req.src.path.length < 2^63):g37 m.kind m.view m.frm m.to m.round m.region m.slot m.op.core m.op.op m.op.part m.err m.settled m.req.id.core m.req.id.op m.req.id.part m.req.call.kind m.req.call.slot m.req.call.dest m.req.call.core m.req.call.mask m.req.call.object m.req.call.bits m.req.call.level m.req.call.offset m.req.call.count m.req.call.index m.req.call.addr m.req.region m.req.width m.req.src.id.core m.req.src.id.op m.req.src.id.part (Zb m.req.src.path) m.req.src.cap.kind m.req.src.cap.base m.req.src.cap.bits m.req.src.cap.rights m.req.src.cap.width m.req.src.cap.level m.req.src.cap.device (Zb m.ids) (m.nodes.map ZT) (Za m.cores) (m.moves.map ZZ) m.base m.next.number (Za m.next.members) (Za m.next.owners) (m.state.slots.map Zh) (m.state.pending.map Zt) (m.state.marks.map Zi) (m.state.answers.map Zy) (m.state.entries.map Zf) (Zb m.state.commits) m.report.core m.report.view.number (Za m.report.view.members) (Za m.report.view.owners) (m.report.state.slots.map Zh) (m.report.state.pending.map Zt) (m.report.state.marks.map Zi) (m.report.state.answers.map Zy) (m.report.state.entries.map Zf) (Zb m.report.state.commits) m.report.ready m.report.next.number (Za m.report.next.members) (Za m.report.next.owners) (m.report.proposal.slots.map Zh) (m.report.proposal.pending.map Zt) (m.report.proposal.marks.map Zi) (m.report.proposal.answers.map Zy) (m.report.proposal.entries.map Zf) (Zb m.report.proposal.commits)=some (ZBI m):=by
 rw [Zx4,ZEN _ h,ZBc,ZCc,ZDW,ZU,List.length_map,Z4,List.length_map,Zmo,Zmo,Zmo,Zmo,ZsV m.round,ZsV m.region,ZsV m.slot,ZsV m.err,ZsV m.base]
 have e:((cop .eql m.op.core 0)&&((cop .eql m.op.op 0)&&((cop .eql m.op.part 0)&&true)))=decide (m.op=zid):=by
  rw [Zw,Wd,ZbV,decide_eq_true_eq]
 rw [e]
 simp only [Option.bind_some]
 refine Eq.trans (Js _ (Js _ (Js _ (Js _ (Js _ (Js _ (Js _ (Js _ (Js _ (Js _ (Js _ (Js _ (Js _ (Js _ (rfl))))))))))))))) ?_
 refine congrArg some ?_
 show _=(zf m 0&&(zf m 1&&(zf m 2&&(zf m 3&&(zf m 4&&(zf m 5&&(zf m 6&&(zf m 7&&(zf m 8&&(zf m 9&&(zf m 10&&(zf m 11&&(zf m 12&&(zf m 13&&(zf m 14&&true)))))))))))))))
 simp only [zf,Bool.and_true]
 ac_rfl
end Go.Proofs.YtjldbnbdcmfbmaaGreat
end

section
namespace Go.Proofs.YtjldbnbdcmfbmaaGreat
open Go Go.AM
set_option linter.unusedSimpArgs false
set_option linter.unusedVariables false
set_option maxRecDepth 100000
def kf:Nat→List Nat
 | 1 => [0, 1]
 | 2 => [0, 2, 3, 4, 5]
 | 3 => [0, 2]
 | 4 => [0, 2, 6, 5]
 | 5 => [0, 2, 3]
 | 6 => [0, 2, 7]
 | 7 => [0, 2]
 | 8 => [0, 2]
 | 9 => [0, 2]
 | 10 => [0, 2]
 | 11 => [0, 2]
 | 12 => [8, 9]
 | 13 => [8, 10]
 | 14 => [8, 11, 9, 12, 13]
 | 15 => [8]
 | 16 => [8]
 | 17 => [9, 14]
 | _ => []
def fc (l:List Nat):List (List AV):=l.map fun f:Nat=>[I (f:Int)]
theorem s32:∀ n:Nat,1≤n→n≤17→g32 (n:Int)=some (fc (kf n),true)
 | 1, _, _ => by rw [YO]; rfl
 | 2, _, _ => by rw [YO]; rfl
 | 3, _, _ => by rw [YO]; rfl
 | 4, _, _ => by rw [YO]; rfl
 | 5, _, _ => by rw [YO]; rfl
 | 6, _, _ => by rw [YO]; rfl
 | 7, _, _ => by rw [YO]; rfl
 | 8, _, _ => by rw [YO]; rfl
 | 9, _, _ => by rw [YO]; rfl
 | 10, _, _ => by rw [YO]; rfl
 | 11, _, _ => by rw [YO]; rfl
 | 12, _, _ => by rw [YO]; rfl
 | 13, _, _ => by rw [YO]; rfl
 | 14, _, _ => by rw [YO]; rfl
 | 15, _, _ => by rw [YO]; rfl
 | 16, _, _ => by rw [YO]; rfl
 | 17, _, _ => by rw [YO]; rfl
 | n + 18, _, h => absurd h (by omega)
theorem ZC6 (k:Int) (h:¬ (1≤k∧k≤17)):g32 k=some (E0,false):=by
 rw [YO]
 rw [if_neg (show ¬ (cop .eql k 1)=true by simp only [CQ];omega)]
 rw [if_neg (show ¬ (cop .eql k 2)=true by simp only [CQ];omega)]
 rw [if_neg (show ¬ (cop .eql k 3)=true by simp only [CQ];omega)]
 rw [if_neg (show ¬ (cop .eql k 7)=true by simp only [CQ];omega)]
 rw [if_neg (show ¬ (cop .eql k 8)=true by simp only [CQ];omega)]
 rw [if_neg (show ¬ (cop .eql k 9)=true by simp only [CQ];omega)]
 rw [if_neg (show ¬ (cop .eql k 10)=true by simp only [CQ];omega)]
 rw [if_neg (show ¬ (cop .eql k 11)=true by simp only [CQ];omega)]
 rw [if_neg (show ¬ (cop .eql k 4)=true by simp only [CQ];omega)]
 rw [if_neg (show ¬ (cop .eql k 5)=true by simp only [CQ];omega)]
 rw [if_neg (show ¬ (cop .eql k 6)=true by simp only [CQ];omega)]
 rw [if_neg (show ¬ (cop .eql k 12)=true by simp only [CQ];omega)]
 rw [if_neg (show ¬ (cop .eql k 13)=true by simp only [CQ];omega)]
 rw [if_neg (show ¬ (cop .eql k 14)=true by simp only [CQ];omega)]
 rw [if_neg (show ¬ (cop .eql k 15)=true by simp only [CQ];omega)]
 rw [if_neg (show ¬ (cop .eql k 16)=true by simp only [CQ];omega)]
 rw [if_neg (show ¬ (cop .eql k 17)=true by simp only [CQ];omega)]
theorem Zsr (n:Nat):∀ f∈kf n,f < 15:=by
 intro f hf
 unfold kf at hf
 split at hf<;>simp at hf<;>omega
theorem ZjE {γ:Type} {l:List Nat} {i:Nat} (h:i < l.length) (k:Int→Option γ):Zm (fc l) (i:Int) [.int .i64] k=k (l[i] : Int):=Ys (f:=fun n:Nat=>[I (n:Int)]) (sh:=[.int .i64]) (v:=fun n:Nat=>(n:Int)) (fun _=>rfl) h k
theorem ZpY (r:Msg) (f:Nat) (h:r.req.src.path.length < 2^63):(clr r f).req.src.path.length < 2^63:=by
 unfold clr
 split<;>first | exact h | (show ([] : List Id).length < 2^63;simp)
theorem l12 (m:Msg) (h:m.Fits) (L:List Nat) (hL:∀ f∈L,f < 15) (hn:L.length < 2^63):∀ (j i fuel:Nat) (r:Msg),L.length=i+j→j < fuel→r.req.src.path.length < 2^63→
  Zqk fuel m.kind m.view m.frm m.to m.round m.region m.slot m.op.core m.op.op m.op.part m.err m.settled m.req.id.core m.req.id.op m.req.id.part m.req.call.kind m.req.call.slot m.req.call.dest m.req.call.core m.req.call.mask m.req.call.object m.req.call.bits m.req.call.level m.req.call.offset m.req.call.count m.req.call.index m.req.call.addr m.req.region m.req.width m.req.src.id.core m.req.src.id.op m.req.src.id.part (Zb m.req.src.path) m.req.src.cap.kind m.req.src.cap.base m.req.src.cap.bits m.req.src.cap.rights m.req.src.cap.width m.req.src.cap.level m.req.src.cap.device (Zb m.ids) (m.nodes.map ZT) (Za m.cores) (m.moves.map ZZ) m.base m.next.number (Za m.next.members) (Za m.next.owners) (m.state.slots.map Zh) (m.state.pending.map Zt) (m.state.marks.map Zi) (m.state.answers.map Zy) (m.state.entries.map Zf) (Zb m.state.commits) m.report.core m.report.view.number (Za m.report.view.members) (Za m.report.view.owners) (m.report.state.slots.map Zh) (m.report.state.pending.map Zt) (m.report.state.marks.map Zi) (m.report.state.answers.map Zy) (m.report.state.entries.map Zf) (Zb m.report.state.commits) m.report.ready m.report.next.number (Za m.report.next.members) (Za m.report.next.owners) (m.report.proposal.slots.map Zh) (m.report.proposal.pending.map Zt) (m.report.proposal.marks.map Zi) (m.report.proposal.answers.map Zy) (m.report.proposal.entries.map Zf) (Zb m.report.proposal.commits) r.kind r.view r.frm r.to r.round r.region r.slot r.op.core r.op.op r.op.part r.err r.settled r.req.id.core r.req.id.op r.req.id.part r.req.call.kind r.req.call.slot r.req.call.dest r.req.call.core r.req.call.mask r.req.call.object r.req.call.bits r.req.call.level r.req.call.offset r.req.call.count r.req.call.index r.req.call.addr r.req.region r.req.width r.req.src.id.core r.req.src.id.op r.req.src.id.part (Zb r.req.src.path) r.req.src.cap.kind r.req.src.cap.base r.req.src.cap.bits r.req.src.cap.rights r.req.src.cap.width r.req.src.cap.level r.req.src.cap.device (Zb r.ids) (r.nodes.map ZT) (Za r.cores) (r.moves.map ZZ) r.base r.next.number (Za r.next.members) (Za r.next.owners) (r.state.slots.map Zh) (r.state.pending.map Zt) (r.state.marks.map Zi) (r.state.answers.map Zy) (r.state.entries.map Zf) (Zb r.state.commits) r.report.core r.report.view.number (Za r.report.view.members) (Za r.report.view.owners) (r.report.state.slots.map Zh) (r.report.state.pending.map Zt) (r.report.state.marks.map Zi) (r.report.state.answers.map Zy) (r.report.state.entries.map Zf) (Zb r.report.state.commits) r.report.ready r.report.next.number (Za r.report.next.members) (Za r.report.next.owners) (r.report.proposal.slots.map Zh) (r.report.proposal.pending.map Zt) (r.report.proposal.marks.map Zi) (r.report.proposal.answers.map Zy) (r.report.proposal.entries.map Zf) (Zb r.report.proposal.commits) (fc L) (L.length:Int) (i:Int)=some ((L.drop i).all (ZK m)&&ZBI ((L.drop i).foldl clr r)):=by
 intro j
 induction j with
 | zero =>
  intro i fuel r hij hf hr
  obtain ⟨f,rfl⟩:∃ f,fuel=f+1:=⟨fuel-1,by omega⟩
  refine (Zj0 ..).trans ?_
  rw [if_neg (Z5 (by omega)),s37 r hr,Option.bind_some,List.drop_of_length_le (by omega)]
  rfl
 | succ j ih =>
  intro i fuel r hij hf hr
  obtain ⟨f,rfl⟩:∃ f,fuel=f+1:=⟨fuel-1,by omega⟩
  have hi:i < L.length:=by omega
  have hlt:=hL _ (List.getElem_mem hi)
  refine (Zj0 ..).trans ?_
  rw [if_pos (Z6 hi)]
  refine (ZjE hi _).trans ?_
  rw [s35 m h _ hlt,Option.bind_some,List.drop_eq_getElem_cons hi,List.all_cons,List.foldl_cons,Z1 hi hn]
  cases ZK m L[i] with
  | false => rfl
  | true =>
   rw [if_neg (by simp),s36 r _ hlt,Option.bind_some,Bool.true_and]
   exact ih (i+1) f (clr r L[i]) (by omega) (by omega) (ZpY r _ hr)
def kindOk (k:Int):Bool:=decide (1≤k∧k≤17)
def headOk (m:Msg):Bool:=kindOk m.kind&&YQ m.view&&Jh m.frm&&Jh m.to
def rest (n:Nat) (m:Msg):Bool:=(List.range 15).all (fun g=>(kf n).contains g||zf m g)
def Ka (m:Msg):Bool:=headOk m&&((kf m.kind.toNat).all (ZK m)&&rest m.kind.toNat m)
theorem Zth (m:Msg):∀ n:Nat,1≤n→n≤17→ZBI ((kf n).foldl clr m)=rest n m
 | 1, _, _ => by kernel_rfl
 | 2, _, _ => by kernel_rfl
 | 3, _, _ => by kernel_rfl
 | 4, _, _ => by kernel_rfl
 | 5, _, _ => by kernel_rfl
 | 6, _, _ => by kernel_rfl
 | 7, _, _ => by kernel_rfl
 | 8, _, _ => by kernel_rfl
 | 9, _, _ => by kernel_rfl
 | 10, _, _ => by kernel_rfl
 | 11, _, _ => by kernel_rfl
 | 12, _, _ => by kernel_rfl
 | 13, _, _ => by kernel_rfl
 | 14, _, _ => by kernel_rfl
 | 15, _, _ => by kernel_rfl
 | 16, _, _ => by kernel_rfl
 | 17, _, _ => by kernel_rfl
 | n + 18, _, h => absurd h (by omega)
theorem s12 (m:Msg) (h:m.Fits):g12 m.kind m.view m.frm m.to m.round m.region m.slot m.op.core m.op.op m.op.part m.err m.settled m.req.id.core m.req.id.op m.req.id.part m.req.call.kind m.req.call.slot m.req.call.dest m.req.call.core m.req.call.mask m.req.call.object m.req.call.bits m.req.call.level m.req.call.offset m.req.call.count m.req.call.index m.req.call.addr m.req.region m.req.width m.req.src.id.core m.req.src.id.op m.req.src.id.part (Zb m.req.src.path) m.req.src.cap.kind m.req.src.cap.base m.req.src.cap.bits m.req.src.cap.rights m.req.src.cap.width m.req.src.cap.level m.req.src.cap.device (Zb m.ids) (m.nodes.map ZT) (Za m.cores) (m.moves.map ZZ) m.base m.next.number (Za m.next.members) (Za m.next.owners) (m.state.slots.map Zh) (m.state.pending.map Zt) (m.state.marks.map Zi) (m.state.answers.map Zy) (m.state.entries.map Zf) (Zb m.state.commits) m.report.core m.report.view.number (Za m.report.view.members) (Za m.report.view.owners) (m.report.state.slots.map Zh) (m.report.state.pending.map Zt) (m.report.state.marks.map Zi) (m.report.state.answers.map Zy) (m.report.state.entries.map Zf) (Zb m.report.state.commits) m.report.ready m.report.next.number (Za m.report.next.members) (Za m.report.next.owners) (m.report.proposal.slots.map Zh) (m.report.proposal.pending.map Zt) (m.report.proposal.marks.map Zi) (m.report.proposal.answers.map Zy) (m.report.proposal.entries.map Zf) (Zb m.report.proposal.commits)=some (Ka m):=by
 rw [Zw2]
 unfold Ka headOk
 by_cases hk:1≤m.kind∧m.kind≤17
 ·obtain ⟨n,hn⟩:∃ n:Nat,m.kind=n:=⟨m.kind.toNat,by omega⟩
  have h1:kindOk m.kind=true:=decide_eq_true hk
  have e19:g32 m.kind=some (fc (kf n),true):=by rw [hn];exact s32 n (by omega) (by omega)
  rw [e19,Option.bind_some,s33,s34,s34,Option.bind_some,Option.bind_some,Option.bind_some,h1]
  have hlen:(fc (kf n)).length=(kf n).length:=List.length_map _
  have hsz:(kf n).length < 2^63:=by
   have:(kf n).length≤5:=by unfold kf;split<;>simp
   omega
  have e:=l12 m h (kf n) (Zsr n) hsz (kf n).length 0 ZB m (by omega) (by have:=WJ hsz;omega) h.req
  rw [List.drop_zero,Zth m n (by omega) (by omega)] at e
  have hk2:m.kind.toNat=n:=by omega
  rw [hk2]
  dsimp only
  rw [hlen]
  refine (if_neg (by simp)).trans ?_
  cases YQ m.view<;>cases Jh m.frm<;>cases Jh m.to<;>first | rfl | exact e
 ·have h1:kindOk m.kind=false:=decide_eq_false hk
  rw [ZC6 _ hk,Option.bind_some,h1]
  rfl
end Go.Proofs.YtjldbnbdcmfbmaaGreat
end

section
namespace Go.Proofs.YtjldbnbdcmfbmaaGreat
open Go Go.AM
set_option linter.unusedSimpArgs false
set_option linter.unusedVariables false
set_option maxRecDepth 100000
theorem Zq2 (a b:Int):cop .eql a b=decide (a=b):=rfl
def at2 {α:Type} (q:α→α→Bool) (l m:List α) (i:Nat):Bool:=match l[i]?,m[i]? with | some a,some b=>q a b | _,_=>true
def YL {α:Type} (q:α→α→Bool) (l m:List α):Bool:=decide (l.length=m.length)&&(List.range' 0 l.length).all (at2 q l m)
theorem Zac {α:Type} (q:α→α→Bool) {l m:List α} {i:Nat} (h:i < l.length) (h':i < m.length):at2 q l m i=q l[i] m[i]:=by
 unfold at2
 rw [List.getElem?_eq_getElem h,List.getElem?_eq_getElem h']
def ZdW (a b:Req):Bool:=decide (a.id.core=b.id.core∧a.id.op=b.id.op∧a.id.part=b.id.part)&&decide (a.call.kind=b.call.kind∧a.call.slot=b.call.slot∧a.call.dest=b.call.dest∧a.call.core=b.call.core∧a.call.mask=b.call.mask∧a.call.object=b.call.object∧a.call.bits=b.call.bits∧a.call.level=b.call.level∧a.call.offset=b.call.offset∧a.call.count=b.call.count∧a.call.index=b.call.index∧a.call.addr=b.call.addr)&&decide (a.region=b.region)&&decide (a.width=b.width)&&K3 a.src b.src
theorem s68 (a b:Req) (ha:a.src.path.length < 2^63) (hb:b.src.path.length < 2^63):g68 a.id.core a.id.op a.id.part a.call.kind a.call.slot a.call.dest a.call.core a.call.mask a.call.object a.call.bits a.call.level a.call.offset a.call.count a.call.index a.call.addr a.region a.width a.src.id.core a.src.id.op a.src.id.part (Zb a.src.path) a.src.cap.kind a.src.cap.base a.src.cap.bits a.src.cap.rights a.src.cap.width a.src.cap.level a.src.cap.device b.id.core b.id.op b.id.part b.call.kind b.call.slot b.call.dest b.call.core b.call.mask b.call.object b.call.bits b.call.level b.call.offset b.call.count b.call.index b.call.addr b.region b.width b.src.id.core b.src.id.op b.src.id.part (Zb b.src.path) b.src.cap.kind b.src.cap.base b.src.cap.bits b.src.cap.rights b.src.cap.width b.src.cap.level b.src.cap.device=some (ZdW a b):=by
 rw [ZxV,ZpO _ _ ha hb,Option.bind_some]
 unfold ZdW
 repeat' split
 all_goals (refine congrArg some ?_;rw [Zw];simp only [CQ] at * <;> grind)
theorem s70 (l m:List J4) (hl:l.length < 2^63) (pl:∀ x∈l,x.path.length < 2^63) (pm:∀ x∈m,x.path.length < 2^63):g70 (l.map ZT) (m.map ZT)=some (YL K3 l m):=by
 rw [ZvZ,List.length_map,List.length_map]
 unfold YL
 by_cases h:l.length=m.length
 ·rw [if_neg (show ¬ (cop .neq (l.length:Int) (m.length:Int))=true by simp only [CQ];omega),decide_eq_true h,Bool.true_and]
  have:=JA (F:=fun k i=>Znk k (l.map ZT) (m.map ZT) i) (n:=l.length) (fin:=some true) (bad:=some false) (at2 K3 l m) hl 0 (by omega)
   (fun k i _ hi=>by
    have hi':i < m.length:=by omega
    refine (Zko ..).trans ?_
    rw [List.length_map,if_pos (Z6 hi)]
    refine (KG hi _).trans ?_
    refine (KG hi' _).trans ?_
    rw [Z1 hi hl,Zac _ hi hi']
    generalize Znk k (l.map ZT) (m.map ZT) ((i+1:Nat):Int)=X
    try simp only [KG hi,KG hi',ZlO,d2,d4,d8,d16,ZpO _ _ (pl _ (List.getElem_mem hi)) (pm _ (List.getElem_mem hi')),Option.bind_some]
    skip
    repeat' split
    all_goals (simp only [Zq2,CQ] at * <;> grind))
   (fun k i hi=>by refine (Zko ..).trans ?_;rw [List.length_map,if_neg (Z5 hi)])
  rw [Nat.sub_zero] at this
  refine Eq.trans this ?_
  cases (List.range' 0 l.length).all (at2 K3 l m)<;>rfl
 ·rw [if_pos (show (cop .neq (l.length:Int) (m.length:Int))=true by simp only [CQ];omega),decide_eq_false h]
  rfl
def Zc5:Int→Int→Bool:=fun a b=>decide (a=b)
theorem s71 (l m:List Int) (hl:l.length < 2^63):g71 (Za l) (Za m)=some (YL Zc5 l m):=by
 rw [ZxX,Z4,Z4]
 unfold YL
 by_cases h:l.length=m.length
 ·rw [if_neg (show ¬ (cop .neq (l.length:Int) (m.length:Int))=true by simp only [CQ];omega),decide_eq_true h,Bool.true_and]
  have:=JA (F:=fun k i=>Zm1 k (Za l) (Za m) i) (n:=l.length) (fin:=some true) (bad:=some false) (at2 Zc5 l m) hl 0 (by omega)
   (fun k i _ hi=>by
    have hi':i < m.length:=by omega
    refine (Zkg ..).trans ?_
    rw [Z4,if_pos (Z6 hi)]
    refine (Z3 hi _).trans ?_
    refine (Z3 hi' _).trans ?_
    rw [Z1 hi hl,Zac _ hi hi']
    generalize Zm1 k (Za l) (Za m) ((i+1:Nat):Int)=X
    try simp only [Z3 hi,Z3 hi',d2,d4,d8,d16,Option.bind_some]
    generalize l[i]=a
    generalize m[i]=b
    unfold Zc5
    repeat' split
    all_goals (simp only [Zq2,CQ] at * <;> grind))
   (fun k i hi=>by refine (Zkg ..).trans ?_;rw [Z4,if_neg (Z5 hi)])
  rw [Nat.sub_zero] at this
  refine Eq.trans this ?_
  cases (List.range' 0 l.length).all (at2 Zc5 l m)<;>rfl
 ·rw [if_pos (show (cop .neq (l.length:Int) (m.length:Int))=true by simp only [CQ];omega),decide_eq_false h]
  rfl
def Zcx:Zff→Zff→Bool:=fun a b=>decide (a.region=b.region∧a.to=b.to)
theorem s72 (l m:List Zff) (hl:l.length < 2^63):g72 (l.map ZZ) (m.map ZZ)=some (YL Zcx l m):=by
 rw [ZxI,List.length_map,List.length_map]
 unfold YL
 by_cases h:l.length=m.length
 ·rw [if_neg (show ¬ (cop .neq (l.length:Int) (m.length:Int))=true by simp only [CQ];omega),decide_eq_true h,Bool.true_and]
  have:=JA (F:=fun k i=>ZoB k (l.map ZZ) (m.map ZZ) i) (n:=l.length) (fin:=some true) (bad:=some false) (at2 Zcx l m) hl 0 (by omega)
   (fun k i _ hi=>by
    have hi':i < m.length:=by omega
    refine (Zkx ..).trans ?_
    rw [List.length_map,if_pos (Z6 hi)]
    refine (Kq hi _).trans ?_
    refine (Kq hi' _).trans ?_
    rw [Z1 hi hl,Zac _ hi hi']
    generalize ZoB k (l.map ZZ) (m.map ZZ) ((i+1:Nat):Int)=X
    try simp only [Kq hi,Kq hi',d2,d4,d8,d16,Option.bind_some]
    generalize l[i]=a
    generalize m[i]=b
    unfold Zcx
    repeat' split
    all_goals (simp only [Zq2,CQ] at * <;> grind))
   (fun k i hi=>by refine (Zkx ..).trans ?_;rw [List.length_map,if_neg (Z5 hi)])
  rw [Nat.sub_zero] at this
  refine Eq.trans this ?_
  cases (List.range' 0 l.length).all (at2 Zcx l m)<;>rfl
 ·rw [if_pos (show (cop .neq (l.length:Int) (m.length:Int))=true by simp only [CQ];omega),decide_eq_false h]
  rfl
def ZjM:YS→YS→Bool:=fun a b=>decide (a.op=b.op)&&decide (a.lock.core=b.lock.core∧a.lock.op=b.lock.op∧a.lock.part=b.lock.part)&&K3 a.node b.node
theorem ZEv (l m:List YS) (hl:l.length < 2^63) (pl:∀ x∈l,x.node.path.length < 2^63) (pm:∀ x∈m,x.node.path.length < 2^63):ZBH (l.map Zh) (m.map Zh)=some (YL ZjM l m):=by
 rw [Ztz,List.length_map,List.length_map]
 unfold YL
 by_cases h:l.length=m.length
 ·rw [if_neg (show ¬ (cop .neq (l.length:Int) (m.length:Int))=true by simp only [CQ];omega),decide_eq_true h,Bool.true_and]
  have:=JA (F:=fun k i=>Zin k (l.map Zh) (m.map Zh) i) (n:=l.length) (fin:=some true) (bad:=some false) (at2 ZjM l m) hl 0 (by omega)
   (fun k i _ hi=>by
    have hi':i < m.length:=by omega
    refine (ZgV ..).trans ?_
    rw [List.length_map,if_pos (Z6 hi)]
    refine (Yd hi _).trans ?_
    refine (Yd hi' _).trans ?_
    rw [Z1 hi hl,Zac _ hi hi']
    generalize Zin k (l.map Zh) (m.map Zh) ((i+1:Nat):Int)=X
    try simp only [Yd hi,Yd hi',Zlx,d2,d4,d8,d16,ZpO _ _ (pl _ (List.getElem_mem hi)) (pm _ (List.getElem_mem hi')),Option.bind_some]
    generalize l[i]=a
    generalize m[i]=b
    unfold ZjM
    repeat' split
    all_goals (simp only [Zq2,CQ] at * <;> grind))
   (fun k i hi=>by refine (ZgV ..).trans ?_;rw [List.length_map,if_neg (Z5 hi)])
  rw [Nat.sub_zero] at this
  refine Eq.trans this ?_
  cases (List.range' 0 l.length).all (at2 ZjM l m)<;>rfl
 ·rw [if_pos (show (cop .neq (l.length:Int) (m.length:Int))=true by simp only [CQ];omega),decide_eq_false h]
  rfl
theorem ZEV (l m:List Req) (hl:l.length < 2^63) (pl:∀ x∈l,x.src.path.length < 2^63) (pm:∀ x∈m,x.src.path.length < 2^63):ZCj (l.map Zt) (m.map Zt)=some (YL ZdW l m):=by
 rw [ZrZ,List.length_map,List.length_map]
 unfold YL
 by_cases h:l.length=m.length
 ·rw [if_neg (show ¬ (cop .neq (l.length:Int) (m.length:Int))=true by simp only [CQ];omega),decide_eq_true h,Bool.true_and]
  have:=JA (F:=fun k i=>ZgL k (l.map Zt) (m.map Zt) i) (n:=l.length) (fin:=some true) (bad:=some false) (at2 ZdW l m) hl 0 (by omega)
   (fun k i _ hi=>by
    have hi':i < m.length:=by omega
    refine (ZhT ..).trans ?_
    rw [List.length_map,if_pos (Z6 hi)]
    refine (Ym hi _).trans ?_
    refine (Ym hi' _).trans ?_
    rw [Z1 hi hl,Zac _ hi hi']
    generalize ZgL k (l.map Zt) (m.map Zt) ((i+1:Nat):Int)=X
    try simp only [Ym hi,Ym hi',ZuI,d2,d4,d8,d16,s68 _ _ (pl _ (List.getElem_mem hi)) (pm _ (List.getElem_mem hi')),Option.bind_some]
    skip
    repeat' split
    all_goals (simp only [Zq2,CQ] at * <;> grind))
   (fun k i hi=>by refine (ZhT ..).trans ?_;rw [List.length_map,if_neg (Z5 hi)])
  rw [Nat.sub_zero] at this
  refine Eq.trans this ?_
  cases (List.range' 0 l.length).all (at2 ZdW l m)<;>rfl
 ·rw [if_pos (show (cop .neq (l.length:Int) (m.length:Int))=true by simp only [CQ];omega),decide_eq_false h]
  rfl
def Zdu:ZbD→ZbD→Bool:=fun a b=>decide (a.region=b.region∧a.op.core=b.op.core∧a.op.op=b.op.op∧a.op.part=b.op.part)
theorem ZDy (l m:List ZbD) (hl:l.length < 2^63):ZBt (l.map Zi) (m.map Zi)=some (YL Zdu l m):=by
 rw [ZrO,List.length_map,List.length_map]
 unfold YL
 by_cases h:l.length=m.length
 ·rw [if_neg (show ¬ (cop .neq (l.length:Int) (m.length:Int))=true by simp only [CQ];omega),decide_eq_true h,Bool.true_and]
  have:=JA (F:=fun k i=>ZgO k (l.map Zi) (m.map Zi) i) (n:=l.length) (fin:=some true) (bad:=some false) (at2 Zdu l m) hl 0 (by omega)
   (fun k i _ hi=>by
    have hi':i < m.length:=by omega
    refine (Zhn ..).trans ?_
    rw [List.length_map,if_pos (Z6 hi)]
    refine (Yb hi _).trans ?_
    refine (Yb hi' _).trans ?_
    rw [Z1 hi hl,Zac _ hi hi']
    generalize ZgO k (l.map Zi) (m.map Zi) ((i+1:Nat):Int)=X
    try simp only [Yb hi,Yb hi',d2,d4,d8,d16,Option.bind_some]
    generalize l[i]=a
    generalize m[i]=b
    unfold Zdu
    repeat' split
    all_goals (simp only [Zq2,CQ] at * <;> grind))
   (fun k i hi=>by refine (Zhn ..).trans ?_;rw [List.length_map,if_neg (Z5 hi)])
  rw [Nat.sub_zero] at this
  refine Eq.trans this ?_
  cases (List.range' 0 l.length).all (at2 Zdu l m)<;>rfl
 ·rw [if_pos (show (cop .neq (l.length:Int) (m.length:Int))=true by simp only [CQ];omega),decide_eq_false h]
  rfl
def ZiG:Ans→Ans→Bool:=fun a b=>decide (a.op=b.op∧a.err=b.err)
theorem ZE0 (l m:List Ans) (hl:l.length < 2^63):ZAM (l.map Zy) (m.map Zy)=some (YL ZiG l m):=by
 rw [Zuc,List.length_map,List.length_map]
 unfold YL
 by_cases h:l.length=m.length
 ·rw [if_neg (show ¬ (cop .neq (l.length:Int) (m.length:Int))=true by simp only [CQ];omega),decide_eq_true h,Bool.true_and]
  have:=JA (F:=fun k i=>ZhK k (l.map Zy) (m.map Zy) i) (n:=l.length) (fin:=some true) (bad:=some false) (at2 ZiG l m) hl 0 (by omega)
   (fun k i _ hi=>by
    have hi':i < m.length:=by omega
    refine (ZgT ..).trans ?_
    rw [List.length_map,if_pos (Z6 hi)]
    refine (YB hi _).trans ?_
    refine (YB hi' _).trans ?_
    rw [Z1 hi hl,Zac _ hi hi']
    generalize ZhK k (l.map Zy) (m.map Zy) ((i+1:Nat):Int)=X
    try simp only [YB hi,YB hi',d2,d4,d8,d16,Option.bind_some]
    generalize l[i]=a
    generalize m[i]=b
    unfold ZiG
    repeat' split
    all_goals (simp only [Zq2,CQ] at * <;> grind))
   (fun k i hi=>by refine (ZgT ..).trans ?_;rw [List.length_map,if_neg (Z5 hi)])
  rw [Nat.sub_zero] at this
  refine Eq.trans this ?_
  cases (List.range' 0 l.length).all (at2 ZiG l m)<;>rfl
 ·rw [if_pos (show (cop .neq (l.length:Int) (m.length:Int))=true by simp only [CQ];omega),decide_eq_false h]
  rfl
def ZiQ:ZD→ZD→Bool:=fun a b=>decide (a.core=b.core)&&decide (a.slot=b.slot)&&K3 a.node b.node
theorem ZEG (l m:List ZD) (hl:l.length < 2^63) (pl:∀ x∈l,x.node.path.length < 2^63) (pm:∀ x∈m,x.node.path.length < 2^63):Zz6 (l.map Zf) (m.map Zf)=some (YL ZiQ l m):=by
 rw [Ztl,List.length_map,List.length_map]
 unfold YL
 by_cases h:l.length=m.length
 ·rw [if_neg (show ¬ (cop .neq (l.length:Int) (m.length:Int))=true by simp only [CQ];omega),decide_eq_true h,Bool.true_and]
  have:=JA (F:=fun k i=>ZgN k (l.map Zf) (m.map Zf) i) (n:=l.length) (fin:=some true) (bad:=some false) (at2 ZiQ l m) hl 0 (by omega)
   (fun k i _ hi=>by
    have hi':i < m.length:=by omega
    refine (Zhd ..).trans ?_
    rw [List.length_map,if_pos (Z6 hi)]
    refine (Zo hi _).trans ?_
    refine (Zo hi' _).trans ?_
    rw [Z1 hi hl,Zac _ hi hi']
    generalize ZgN k (l.map Zf) (m.map Zf) ((i+1:Nat):Int)=X
    try simp only [Zo hi,Zo hi',Yl,d2,d4,d8,d16,ZpO _ _ (pl _ (List.getElem_mem hi)) (pm _ (List.getElem_mem hi')),Option.bind_some]
    generalize l[i]=a
    generalize m[i]=b
    unfold ZiQ
    repeat' split
    all_goals (simp only [Zq2,CQ] at * <;> grind))
   (fun k i hi=>by refine (Zhd ..).trans ?_;rw [List.length_map,if_neg (Z5 hi)])
  rw [Nat.sub_zero] at this
  refine Eq.trans this ?_
  cases (List.range' 0 l.length).all (at2 ZiQ l m)<;>rfl
 ·rw [if_pos (show (cop .neq (l.length:Int) (m.length:Int))=true by simp only [CQ];omega),decide_eq_false h]
  rfl
def ZlP (a b:Vu):Bool:=cop .eql a.number b.number&&(YL Zc5 a.members b.members&&YL Zc5 a.owners b.owners)
def ZeA (a b:Jv):Bool:=YL ZjM a.slots b.slots&&(YL ZdW a.pending b.pending&&(YL Zdu a.marks b.marks&&(YL ZiG a.answers b.answers&&(YL ZiQ a.entries b.entries&&decide (a.commits=b.commits)))))
def Zgc (a b:Jl):Bool:=cop .eql a.core b.core&&(ZlP a.view b.view&&(ZeA a.state b.state&&((a.ready == b.ready)&&(ZlP a.next b.next&&ZeA a.proposal b.proposal))))
theorem s73 (a b:Vu) (h:a.Fits):g73 a.number (Za a.members) (Za a.owners) b.number (Za b.members) (Za b.owners)=some (ZlP a b):=by
 rw [Zvb,s71 _ _ h.members,s71 _ _ h.owners]
 exact Js _ (Js _ rfl)
theorem s74 (a b:Jv) (h:a.Fits) (h':b.Fits):g74 (a.slots.map Zh) (a.pending.map Zt) (a.marks.map Zi) (a.answers.map Zy) (a.entries.map Zf) (Zb a.commits) (b.slots.map Zh) (b.pending.map Zt) (b.marks.map Zi) (b.answers.map Zy) (b.entries.map Zf) (Zb b.commits)=some (ZeA a b):=by
 rw [ZvY,ZEv _ _ h.slots h.slot h'.slot,ZEV _ _ h.pending h.req h'.req,ZDy _ _ h.marks,ZE0 _ _ h.answers,ZEG _ _ h.entries h.entry h'.entry,s69 _ _ h.commits h'.commits]
 exact Js _ (Js _ (Js _ (Js _ (Js _ rfl))))
theorem s75 (a b:Jl) (h:a.Fits) (h':b.Fits):g75 a.core a.view.number (Za a.view.members) (Za a.view.owners) (a.state.slots.map Zh) (a.state.pending.map Zt) (a.state.marks.map Zi) (a.state.answers.map Zy) (a.state.entries.map Zf) (Zb a.state.commits) a.ready a.next.number (Za a.next.members) (Za a.next.owners) (a.proposal.slots.map Zh) (a.proposal.pending.map Zt) (a.proposal.marks.map Zi) (a.proposal.answers.map Zy) (a.proposal.entries.map Zf) (Zb a.proposal.commits) b.core b.view.number (Za b.view.members) (Za b.view.owners) (b.state.slots.map Zh) (b.state.pending.map Zt) (b.state.marks.map Zi) (b.state.answers.map Zy) (b.state.entries.map Zf) (Zb b.state.commits) b.ready b.next.number (Za b.next.members) (Za b.next.owners) (b.proposal.slots.map Zh) (b.proposal.pending.map Zt) (b.proposal.marks.map Zi) (b.proposal.answers.map Zy) (b.proposal.entries.map Zf) (Zb b.proposal.commits)=some (Zgc a b):=by
 rw [Zwu,s73 _ _ h.view,s74 _ _ h.state h'.state,s73 _ _ h.next,s74 _ _ h.proposal h'.proposal]
 exact Js _ (Js _ (Js _ (Js _ (Js _ rfl))))
theorem nif (c:Bool) {y:Bool} {x:Option Bool} (h:x=some y):(if c=true then some false else x)=some (!c&&y):=by cases c<;>simp [h]
def Zs4 (a b:Msg):Bool:=!cop .neq a.kind b.kind&&(!cop .neq a.view b.view&&(!cop .neq a.frm b.frm&&(!cop .neq a.to b.to&&(!cop .neq a.round b.round&&(!cop .neq a.region b.region&&(!cop .neq a.slot b.slot&&(!(!((cop .eql a.op.core b.op.core)&&((cop .eql a.op.op b.op.op)&&((cop .eql a.op.part b.op.part)&&true))))&&(!cop .neq a.err b.err&&(!(!(a.settled == b.settled))&&(!cop .neq a.base b.base&&(ZdW a.req b.req&&(decide (a.ids=b.ids)&&(YL K3 a.nodes b.nodes&&(YL Zc5 a.cores b.cores&&(YL Zcx a.moves b.moves&&(ZlP a.next b.next&&(ZeA a.state b.state&&Zgc a.report b.report)))))))))))))))))
theorem s19 (a b:Msg) (h:a.Fits) (h':b.Fits):g19 a.kind a.view a.frm a.to a.round a.region a.slot a.op.core a.op.op a.op.part a.err a.settled a.req.id.core a.req.id.op a.req.id.part a.req.call.kind a.req.call.slot a.req.call.dest a.req.call.core a.req.call.mask a.req.call.object a.req.call.bits a.req.call.level a.req.call.offset a.req.call.count a.req.call.index a.req.call.addr a.req.region a.req.width a.req.src.id.core a.req.src.id.op a.req.src.id.part (Zb a.req.src.path) a.req.src.cap.kind a.req.src.cap.base a.req.src.cap.bits a.req.src.cap.rights a.req.src.cap.width a.req.src.cap.level a.req.src.cap.device (Zb a.ids) (a.nodes.map ZT) (Za a.cores) (a.moves.map ZZ) a.base a.next.number (Za a.next.members) (Za a.next.owners) (a.state.slots.map Zh) (a.state.pending.map Zt) (a.state.marks.map Zi) (a.state.answers.map Zy) (a.state.entries.map Zf) (Zb a.state.commits) a.report.core a.report.view.number (Za a.report.view.members) (Za a.report.view.owners) (a.report.state.slots.map Zh) (a.report.state.pending.map Zt) (a.report.state.marks.map Zi) (a.report.state.answers.map Zy) (a.report.state.entries.map Zf) (Zb a.report.state.commits) a.report.ready a.report.next.number (Za a.report.next.members) (Za a.report.next.owners) (a.report.proposal.slots.map Zh) (a.report.proposal.pending.map Zt) (a.report.proposal.marks.map Zi) (a.report.proposal.answers.map Zy) (a.report.proposal.entries.map Zf) (Zb a.report.proposal.commits) b.kind b.view b.frm b.to b.round b.region b.slot b.op.core b.op.op b.op.part b.err b.settled b.req.id.core b.req.id.op b.req.id.part b.req.call.kind b.req.call.slot b.req.call.dest b.req.call.core b.req.call.mask b.req.call.object b.req.call.bits b.req.call.level b.req.call.offset b.req.call.count b.req.call.index b.req.call.addr b.req.region b.req.width b.req.src.id.core b.req.src.id.op b.req.src.id.part (Zb b.req.src.path) b.req.src.cap.kind b.req.src.cap.base b.req.src.cap.bits b.req.src.cap.rights b.req.src.cap.width b.req.src.cap.level b.req.src.cap.device (Zb b.ids) (b.nodes.map ZT) (Za b.cores) (b.moves.map ZZ) b.base b.next.number (Za b.next.members) (Za b.next.owners) (b.state.slots.map Zh) (b.state.pending.map Zt) (b.state.marks.map Zi) (b.state.answers.map Zy) (b.state.entries.map Zf) (Zb b.state.commits) b.report.core b.report.view.number (Za b.report.view.members) (Za b.report.view.owners) (b.report.state.slots.map Zh) (b.report.state.pending.map Zt) (b.report.state.marks.map Zi) (b.report.state.answers.map Zy) (b.report.state.entries.map Zf) (Zb b.report.state.commits) b.report.ready b.report.next.number (Za b.report.next.members) (Za b.report.next.owners) (b.report.proposal.slots.map Zh) (b.report.proposal.pending.map Zt) (b.report.proposal.marks.map Zi) (b.report.proposal.answers.map Zy) (b.report.proposal.entries.map Zf) (Zb b.report.proposal.commits)=some (Zs4 a b):=by
 rw [Zyi,s68 _ _ h.req h'.req,s69 _ _ h.ids h'.ids,s70 _ _ h.nodes h.node h'.node,s71 _ _ h.cores,s72 _ _ h.moves,s73 _ _ h.next,s74 _ _ h.state h'.state,s75 _ _ h.report h'.report]
 exact nif _ (nif _ (nif _ (nif _ (nif _ (nif _ (nif _ (nif _ (nif _ (nif _ (nif _ (Js _ (Js _ (Js _ (Js _ (Js _ (Js _ (Js _ (rfl))))))))))))))))))
theorem Ya {α:Type} (q:α→α→Bool) (hq:∀ a,q a a=true) (l:List α):YL q l l=true:=by
 unfold YL
 rw [decide_eq_true rfl,Bool.true_and,List.all_eq_true]
 intro i hi
 have hi':i < l.length:=by simpa [List.mem_range'] using hi
 rw [Zac q hi' hi',hq]
theorem Wi (a:J4):K3 a a=true:=by simp [K3]
theorem Zd9 (a:Req):ZdW a a=true:=by simp [ZdW,Wi]
theorem ZeE (a:Vu):ZlP a a=true:=by
 simp [ZlP,Ya Zc5 (fun a=>by simp [Zc5]),cop]
theorem ZcD (a:Jv):ZeA a a=true:=by
 simp [ZeA,Ya ZjM (fun a=>by simp [ZjM,Wi]),Ya ZdW Zd9,Ya Zdu (fun a=>by simp [Zdu]),Ya ZiG (fun a=>by simp [ZiG]),Ya ZiQ (fun a=>by simp [ZiQ,Wi])]
theorem ZgY (a:Jl):Zgc a a=true:=by simp [Zgc,ZeE,ZcD,cop]
theorem Zl4 (a:Msg):Zs4 a a=true:=by
 simp [Zs4,Zd9,Ya K3 Wi,Ya Zc5 (fun a=>by simp [Zc5]),Ya Zcx (fun a=>by simp [Zcx]),ZeE,ZcD,ZgY,cop]
end Go.Proofs.YtjldbnbdcmfbmaaGreat
end

section
namespace Go.Proofs.YtjldbnbdcmfbmaaGreat
open Go Go.AM
set_option linter.unusedSimpArgs false
set_option linter.unusedVariables false
set_option maxRecDepth 100000
theorem ZrL {n:Nat} {m:Msg} (h:rest n m=true) (g:Nat) (hg:g < 15) (hc:(kf n).contains g=false):zf m g=true:=by
 have this:((kf n).contains g||zf m g)=true:=(List.all_eq_true.1 h) g (List.mem_range.2 hg)
 rwa [hc,Bool.false_or] at this
end Go.Proofs.YtjldbnbdcmfbmaaGreat
end

section
namespace Go.Proofs.YtjldbnbdcmfbmaaGreat
open Go Go.AM
set_option linter.unusedSimpArgs false
set_option linter.unusedVariables false
set_option maxRecDepth 100000
theorem Ztd {α:Type} {F:Nat→LL→Int→Option LL} (l:List α) (f:α→LL) (hn:l.length < 2^63)
  (step:∀ (k i:Nat) (hi:i < l.length),F (k+1) ((l.take i).flatMap f) (i:Int)=F k ((l.take i).flatMap f++f l[i]) ((i+1:Nat):Int))
  (last:∀ (k:Nat) (acc:LL) (i:Nat),l.length≤i→F (k+1) acc (i:Int)=some acc):F ZB [] 0=some (l.flatMap f):=by
 have key:∀ (j i fuel:Nat),l.length≤i+j→j < fuel→F fuel ((l.take i).flatMap f) (i:Int)=some (l.flatMap f):=by
  intro j
  induction j with
  | zero =>
   intro i fuel h hf
   obtain ⟨q,rfl⟩:∃ q,fuel=q+1:=⟨fuel-1,by omega⟩
   rw [last q _ i (by omega),List.take_of_length_le (by omega)]
  | succ j ih =>
   intro i fuel h hf
   obtain ⟨q,rfl⟩:∃ q,fuel=q+1:=⟨fuel-1,by omega⟩
   by_cases hi:i < l.length
   ·have e:(l.take i).flatMap f++f l[i]=(l.take (i+1)).flatMap f:=by
     rw [List.take_add_one,List.getElem?_eq_getElem hi,Option.toList_some,List.flatMap_append,List.flatMap_singleton]
    rw [step q i hi,e]
    exact ih (i+1) q (by omega) (by omega)
   ·rw [last q _ i (by omega),List.take_of_length_le (by omega)]
 exact key l.length 0 ZB (by omega) (by have:=WJ hn;omega)
theorem Zk0 {α:Type} (f:α→List AV) (l:List α):l.flatMap (fun x=>[f x])=l.map f:=by
 induction l with
 | nil => rfl
 | cons a r ih => rw [List.flatMap_cons, ih, List.map_cons]; rfl
theorem ZA {a b:LL} {k:Nat} (h:a.length+b.length≤4096) (hk:k≤10000):Je a b k:=by
 unfold Je JE
 have:(a.length+b.length)*(k+1)≤4096*10001:=Nat.mul_le_mul h (by omega)
 omega
theorem s76 (l:List Id) (h:l.length≤64):g76 (Zb l)=some (Zb l):=by
 rw [Zv4]
 exact Zj (ZA (by rw [ZU];simp;omega) (by omega)) _
theorem s25 (n:J4) (h:n.path.length≤64):g25 n.id.core n.id.op n.id.part (Zb n.path) n.cap.kind n.cap.base n.cap.bits n.cap.rights n.cap.width n.cap.level n.cap.device=some (ZlO n):=by
 rw [Zws,s76 _ h];rfl
structure ZDr (l:List YS):Prop where
 len:l.length≤70
 path:∀ s∈l,s.node.path.length≤20
end Go.Proofs.YtjldbnbdcmfbmaaGreat
end

section
namespace Go.Proofs.YtjldbnbdcmfbmaaGreat
open Go Go.AM
set_option linter.unusedSimpArgs false
set_option linter.unusedVariables false
set_option maxRecDepth 100000
theorem ZdB {α:Type} (f:α→List AV) (g:α→α) (l:List α) (i o:Nat) (c:List AV) (h:∀ x,l[i]? = some x→setCells (f x) o c=f (g x)):Ja (l.map f) i o c=(l.modify i g).map f:=by
 unfold Ja
 refine List.ext_getElem? fun j=>?_
 rw [List.getElem?_modify,List.getElem?_map,List.getElem?_map,List.getElem?_modify]
 cases hj:l[j]? with
 | none => rfl
 | some x =>
  by_cases hij:i=j
  ·subst hij
   simp [h x hj]
  ·simp [hij]
def Zyq (op:Int) (s:YS):YS:={ s with op:=op }
theorem Zx3 (acc:List YS) (i:Nat) (op:Int):Ja (acc.map Zh) i 11 [AV.val (.int .i64 op)]=(acc.modify i (Zyq op)).map Zh:=ZdB Zh (Zyq op) acc i 11 _ fun _ _=>rfl
end Go.Proofs.YtjldbnbdcmfbmaaGreat
end

section
namespace Go.Proofs.YtjldbnbdcmfbmaaGreat
open Go Go.AM
set_option linter.unusedSimpArgs false
set_option linter.unusedVariables false
set_option maxRecDepth 100000
theorem Zhq {γ:Type} {F:Nat→Int→Option γ} {n:Nat} (hit:Nat→γ) (p:Nat→Bool) (hn:n < 2^63)
  (step:∀ k i:Nat,i < n→F (k+1) (i:Int)=if p i=true then some (hit i) else F k ((i+1:Nat):Int))
  (last:∀ k:Nat,F (k+1) (n:Int)=some (hit n)) (m:Nat) (hm:m≤n) (h1:∀ j,j < m→p j=false) (h2:m < n→p m=true):F ZB 0=some (hit m):=by
 have key:∀ (j i fuel:Nat),i+j=m→n-i < fuel→F fuel (i:Int)=some (hit m):=by
  intro j
  induction j with
  | zero =>
   intro i fuel h hf
   obtain ⟨q,rfl⟩:∃ q,fuel=q+1:=⟨fuel-1,by omega⟩
   have:i=m:=by omega
   subst this
   by_cases hi:i < n
   ·rw [step q i hi,if_pos (h2 hi)]
   ·have:i=n:=by omega
    subst this
    exact last q
  | succ j ih =>
   intro i fuel h hf
   obtain ⟨q,rfl⟩:∃ q,fuel=q+1:=⟨fuel-1,by omega⟩
   rw [step q i (by omega),if_neg (by rw [h1 i (by omega)];exact Bool.false_ne_true)]
   exact ih (i+1) q (by omega) (by omega)
 exact key m 0 ZB (by omega) (by have:=WJ hn;omega)
def Zfc {α:Type} (q:α→Bool):List α→Nat
 | [] => 0
 | a :: r => match q a with | true => 0 | false => Zfc q r + 1
theorem Zhf {α:Type} (q:α→Bool):∀ (l:List α),Zfc q l≤l.length
 | [] => Nat.le_refl _
 | a :: r => by
  unfold Zfc
  have:=Zhf q r
  split<;>simp only [List.length_cons]<;>omega
theorem Zkw {α:Type} (q:α→Bool):∀ (l:List α) (j:Nat) (hj:j < l.length),j < Zfc q l→q l[j]=false
 | [], j, hj, _ => by simp at hj
 | a :: r, j, hj, h => by
  unfold Zfc at h
  split at h
  ·omega
  ·rename_i ha
   cases j with
   | zero => exact ha
   | succ j => exact Zkw q r j (by simpa using hj) (by omega)
theorem Zm8 {α:Type} (q:α→Bool):∀ (l:List α) (h:Zfc q l < l.length),q l[Zfc q l]=true
 | [], h => by simp at h
 | a :: r, h => by
  cases ha:q a with
  | true =>
   have e:Zfc q (a::r)=0:=by unfold Zfc;rw [ha]
   simp only [e]
   exact ha
  | false =>
   have e:Zfc q (a::r)=Zfc q r+1:=by rw [Zfc];rw [ha]
   have h':Zfc q r < r.length:=by rw [e] at h;simpa using h
   have:=Zm8 q r h'
   simp only [e]
   exact this
def Zi4 (n m:Nat):Int:=if m < n then (m:Int) else -1
theorem Zk7 (n m:Nat):cop .geq (Zi4 n m) 0=decide (m < n):=by
 unfold Zi4
 rw [Zw]
 split<;>simp only [CQ]<;>constructor<;>intro<;>first | omega | simp_all
theorem ZjI {n m:Nat} (h:m < n):Zi4 n m=(m:Int):=if_pos h
def before (r q:Req):Bool:=ZyF r.id q.id
end Go.Proofs.YtjldbnbdcmfbmaaGreat
end

section
namespace Go.Proofs.YtjldbnbdcmfbmaaGreat
open Go Go.AM
set_option linter.unusedSimpArgs false
set_option linter.unusedVariables false
set_option maxRecDepth 100000
def Ze1 (s:YS):Bool:=decide (s.node.id=zid)
theorem ZnL (s:YS):((cop .eql s.node.id.core 0)&&((cop .eql s.node.id.op 0)&&((cop .eql s.node.id.part 0)&&true)))=Ze1 s:=by
 rw [Zw,Wd]
 unfold Ze1
 rw [decide_eq_true_eq]
theorem s81 (s:YS):g81 s.node.id.core s.node.id.op s.node.id.part (Zb s.node.path) s.node.cap.kind s.node.cap.base s.node.cap.bits s.node.cap.rights s.node.cap.width s.node.cap.level s.node.cap.device s.op s.lock.core s.lock.op s.lock.part=some (Ze1 s):=by rw [ZwQ,ZnL]
def lockS (ids:List Id) (by_:Id) (s:YS):YS:=if Ze1 s=false∧ids.contains s.node.id=true then { s with lock:=by_ } else s
end Go.Proofs.YtjldbnbdcmfbmaaGreat
end

section
namespace Go.Proofs.YtjldbnbdcmfbmaaGreat
open Go Go.AM
set_option linter.unusedSimpArgs false
set_option linter.unusedVariables false
set_option maxRecDepth 100000
def ZzG (n:J4) (s:YS):YS:={ s with node:=n }
theorem ZiA {n:J4} (h:ZR n=true):n.path.length≤8:=by
 simp only [ZR,Bool.and_eq_true,decide_eq_true_eq] at h
 exact h.1.2
theorem Zo8 (l:List YS) (i:Nat) (n:J4):Ja (l.map Zh) i 0 (ZT n)=(l.modify i (ZzG n)).map Zh:=ZdB Zh (ZzG n) l i 0 _ fun _ _=>rfl
end Go.Proofs.YtjldbnbdcmfbmaaGreat
end

section
namespace Go.Proofs.YtjldbnbdcmfbmaaGreat
open Go Go.AM
set_option linter.unusedSimpArgs false
set_option linter.unusedVariables false
set_option maxRecDepth 100000
def rep (k e:Int) (m:Msg):Msg:=⟨k,0,0,m.frm,0,m.region,0,m.op,e,false,Jg,[],[],[],[],0,ZQ,Zq,Zu⟩
theorem s13 (x n:Int) (h1:1≤n) (h2:n < 2^62):g13 x n=some (x % n):=by
 have e62:(2:Int)^62=4611686018427387904:=by decide
 have hm0:=Int.emod_nonneg x (show n≠0 by omega)
 have hm1:=Int.emod_lt_of_pos x (show 0 < n by omega)
 have ht:iop .rem .i64 x n=x.tmod n:=rfl
 rw [ZwS,if_neg (by simp only [CQ];omega),Zj (by omega),ht]
 have:=Int.tmod_eq_emod (a:=x) (b:=n)
 by_cases hd:0≤x∨n ∣ x
 ·rw [if_pos hd] at this
  rw [if_neg (by simp only [CQ];omega)]
  congr 1
  omega
 ·rw [if_neg hd] at this
  have habs:((n.natAbs:Nat):Int)=n:=by omega
  have hne:x % n≠0:=fun h=>hd (.inr (Int.dvd_of_emod_eq_zero h))
  rw [if_pos (by simp only [CQ];omega),JH (by omega) (by omega)]
  congr 1
  omega
end Go.Proofs.YtjldbnbdcmfbmaaGreat
end

section
namespace Go.Proofs.YtjldbnbdcmfbmaaGreat
open Go Go.AM
set_option linter.unusedSimpArgs false
set_option linter.unusedVariables false
set_option maxRecDepth 100000
structure Zq9 where
 root:Bool
 src:Int
 core:Int
 slot:Int
 kind:Int
 base:Int
 bits:Int
 count:Int
 rights:Int
 copy:Bool
def Vn (s:Zq9):List AV:=[B s.root,I s.src,I s.core,I s.slot,I s.kind,I s.base,I s.bits,I s.count,I s.rights,B s.copy]
theorem Zv3:Tryz.prog.cellsOf 84=10:=by kernel_rfl
end Go.Proofs.YtjldbnbdcmfbmaaGreat
end

section
namespace Go.Proofs.YtjldbnbdcmfbmaaGreat
open Go Go.AM
set_option linter.unusedSimpArgs false
set_option linter.unusedVariables false
set_option maxRecDepth 100000
theorem ZCQ (a b:Int):Zu4 a b=some (ZbR a b):=by
 rw [ZtQ]
 simp only [ZyS,Option.bind_some]
 cases h:Ve a b with
 | false => simp [ZbR, h]
 | true =>
  obtain ⟨h1,h2,h3,h4,h5⟩:=Zcj h
  have hw:IntKind.wrap .u64 b=b:=JL (by omega) (by omega)
  simp only [Bool.not_true,Bool.false_eq_true,if_false,hw]
  rw [Zj (by omega),Zuy h]
theorem ZAe (a b c d:Int):Zww a b c d=some (Zw6 a b c d):=by
 rw [Ztc]
 simp only [ZyS,ZCQ,Option.bind_some]
 repeat' split
 all_goals (refine congrArg some ?_;rw [Zw];simp only [Zw6,JX,JW,JP,JV,JQ,JT,JZ,JR,JO,JS,JY,J0,Bool.not_eq_true,Bool.not_eq_false,Bool.not_eq_true',Bool.not_eq_false',Bool.and_eq_true,Bool.or_eq_true,decide_eq_true_eq,decide_eq_false_iff_not,Bool.false_eq_true,Bool.true_eq_false,Option.bind_some,Option.some.injEq,false_iff,true_iff,iff_false,iff_true] at *; grind)
theorem ZDC (a b c d:Int):ZAh a b c d=some (inB a b c d):=by
 rw [Zt2]
 simp only [ZyS,ZCQ,Option.bind_some]
 repeat' split
 all_goals (refine congrArg some ?_;rw [Zw];simp only [inB,JX,JW,JP,JV,JQ,JT,JZ,JR,JO,JS,JY,J0,Bool.not_eq_true,Bool.not_eq_false,Bool.not_eq_true',Bool.not_eq_false',Bool.and_eq_true,Bool.or_eq_true,decide_eq_true_eq,decide_eq_false_iff_not,Bool.false_eq_true,Bool.true_eq_false,Option.bind_some,Option.some.injEq,false_iff,true_iff,iff_false,iff_true] at *; grind)
theorem s86 (k b s r w l:Int) (d:Bool) (m:Int):g86 k b s r w l d m=some (k,b,s,iop .and .i64 r m,w,l,d):=Zwz ..
end Go.Proofs.YtjldbnbdcmfbmaaGreat
end

section
namespace Go.Proofs.YtjldbnbdcmfbmaaGreat
open Go Go.AM
set_option linter.unusedSimpArgs false
set_option linter.unusedVariables false
set_option maxRecDepth 100000
theorem l87 {b r w l k s:Int} {d fl:Bool} {lv wd bits sz off obj cnt:Int} (hb:0≤b) (hoff:0≤off) (hsz:0≤sz) (hc:cnt≤8) (hm:b+off+8*sz < 2^62):∀ (j i fuel:Nat),cnt=i+j→j < fuel→
  VN fuel obj bits lv wd off cnt k b s r w l d fl sz (Y2 obj (b+off) sz bits r (if fl=true then wd else 0) (if fl=true then lv else 0) d i) i=some (Y2 obj (b+off) sz bits r (if fl=true then wd else 0) (if fl=true then lv else 0) d cnt.toNat,0):=by
 intro j
 have e62:(2:Int)^62=4611686018427387904:=by decide
 induction j with
 | zero =>
  intro i fuel h hf
  obtain ⟨f,rfl⟩:∃ f,fuel=f+1:=⟨fuel-1,by omega⟩
  rw [Zk5,if_neg (by simp only [JX,JW,JP,JV,JQ,JT,JZ,JR,JO,JS,JY,J0,Bool.not_eq_true,Bool.not_eq_false,Bool.not_eq_true',Bool.not_eq_false',Bool.and_eq_true,Bool.or_eq_true,decide_eq_true_eq,decide_eq_false_iff_not,Bool.false_eq_true,Bool.true_eq_false,Option.bind_some,Option.some.injEq,false_iff,true_iff,iff_false,iff_true];omega)]
  have:cnt.toNat=i:=by omega
  rw [this]
 | succ j ih =>
  intro i fuel h hf
  obtain ⟨f,rfl⟩:∃ f,fuel=f+1:=⟨fuel-1,by omega⟩
  have hsi:(i:Int)*sz≤8*sz:=Int.mul_le_mul_of_nonneg_right (by omega) hsz
  have hsi0:0≤(i:Int)*sz:=Int.mul_nonneg (by omega) hsz
  have a1:iop .add .i64 b off=b+off:=JH (by omega) (by omega)
  have a2:iop .mul .i64 i sz=i*sz:=Zrp (by omega) (by omega)
  have a3:iop .add .i64 (b+off) (i*sz)=b+off+i*sz:=JH (by omega) (by omega)
  have a4:iop .add .i64 i 1=((i+1:Nat):Int):=by rw [JH (by omega) (by omega)];omega
  have:=ih (i+1) f (by omega) (by omega)
  rw [Zgl] at this
  rw [Zk5,if_pos (by simp only [JX,JW,JP,JV,JQ,JT,JZ,JR,JO,JS,JY,J0,Bool.not_eq_true,Bool.not_eq_false,Bool.not_eq_true',Bool.not_eq_false',Bool.and_eq_true,Bool.or_eq_true,decide_eq_true_eq,decide_eq_false_iff_not,Bool.false_eq_true,Bool.true_eq_false,Option.bind_some,Option.some.injEq,false_iff,true_iff,iff_false,iff_true];omega)]
  cases fl
  ·simp only [Bool.false_eq_true,if_false] at this ⊢
   rw [Zj (ZcH (by rw [ZbN];simp;omega)),a1,a2,a3,a4]
   exact this
  ·simp only [if_true] at this ⊢
   rw [Zj (ZcH (by rw [ZbN];simp;omega)),a1,a2,a3,a4]
   exact this
set_option maxHeartbeats 4000000 in
theorem s87 (k b s r w l:Int) (d:Bool) (obj bits level width off cnt:Int):g87 k b s r w l d obj bits level width off cnt =
  some (Wg ⟨k,b,s,r,w,l,d⟩ obj bits level width off cnt,Zct ⟨k,b,s,r,w,l,d⟩ obj bits level width off cnt):=by
 rw [ZxD]
 simp only [ZBE,ZC7,ZCS,Option.bind_some]
 by_cases hh:Yu ⟨k,b,s,r,w,l,d⟩=true∧k=1∧iop .and .i64 r 2≠0∧VJ obj bits=true∧(obj=3→ZbJ width level=true)∧1≤cnt∧cnt≤8∧0≤off
 ·obtain ⟨h1,rfl,h3,h4,h5,h6,h7,h8⟩:=hh
  obtain ⟨n1,n2,n3,n4,n5,n6,n7,n8,n9,n10,n11,n12,n13,n14,n15,n16⟩:=Zpl h1 h4 h6 h7 h8
  have q1:(Zz ((0:Int)≤bits):Option (List (List AV)×Int)→_)=fun x=>x:=Ziy n7
  have q2:(Zz ((2:Int)^bits.toNat≠0):Option (List (List AV)×Int)→_)=fun x=>x:=Ziy n6
  have hw1:IntKind.wrap .u64 bits=bits:=JL n7 (by omega)
  have hw2:IntKind.wrap .u64 s=s:=JL n8 (by simp only at n16;omega)
  have q3:(Zz ((0:Int)≤s):Option (List (List AV)×Int)→_)=fun x=>x:=Ziy n8
  simp only at n3 n5
  have loop:∀ fl:Bool,off+cnt*2^bits.toNat≤2^s.toNat→VN ZB obj bits level width off cnt 1 b s r w l d fl (2^bits.toNat) [] 0=some (Y2 obj (b+off) (2^bits.toNat) bits r (if fl=true then width else 0) (if fl=true then level else 0) d cnt.toNat,0):=by
   intro fl hle
   have:=l87 (fl:=fl) (k:=1) (s:=s) (r:=r) (w:=w) (l:=l) (d:=d) (lv:=level) (wd:=width) (bits:=bits) (obj:=obj) (cnt:=cnt) n9 h8 (Int.le_of_lt n11) h7 (show b+off+8*2^bits.toNat < 2^62 by
    have e62:(2:Int)^62=4611686018427387904:=by decide
    simp only at n10
    omega) cnt.toNat 0 ZB (by omega) (YR (by omega))
   exact this
  have n9':0≤b:=n9
  have n10':b+2^s.toNat≤1099511627776:=n10
  have n5':off≤2^s.toNat→iop .sub .i64 (2^s.toNat) off=2^s.toNat-off:=fun h=>Zd3 (by omega) (by omega)
  have hR:Zct ⟨1,b,s,r,w,l,d⟩ obj bits level width off cnt=if d=true∧obj≠1∧obj≠2 then 5 else if off % 2^bits.toNat≠0∨2^s.toNat-cnt*2^bits.toNat < off∨(obj=1∧s≤bits) then 6 else 0:=by
   rw [Zct,if_neg (by simp [h1]),if_neg h3,if_neg (by
    rintro (h | ⟨h,h'⟩ | h | h | h)
    ·rw [h4] at h;cases h
    ·rw [h5 h] at h';cases h'
    ·omega
    ·omega
    ·omega)]
  have hk1:cop .neq (1:Int) 1=false:=rfl
  simp only [hw1,hw2,n1,n2,n3,n4,q1,q2,q3,h1,h4,hk1,Bool.not_true,Bool.false_eq_true,if_false]
  clear n1 n2 n3 n4 n5 q1 q2 q3
  by_cases e5:d=true∧obj≠1∧obj≠2
  ·rw [if_pos e5] at hR
   obtain ⟨hd,e1,e2⟩:=e5
   repeat' (with_reducible refine JD (fun _=>?_) (fun _=>?_))
   all_goals first
    | exact Zjs (by decide) hR
    | (exfalso; simp only [JX, JW, JP, JV, JQ, JT, JZ, JR, JO, JS, JY, J0, Bool.not_eq_true, Bool.not_eq_false, Bool.not_eq_true', Bool.not_eq_false', Bool.and_eq_true, Bool.or_eq_true, decide_eq_true_eq, decide_eq_false_iff_not, Bool.false_eq_true, Bool.true_eq_false, Option.bind_some, Option.some.injEq, false_iff, true_iff, iff_false, iff_true] at *; first | omega | grind)
  ·rw [if_neg e5] at hR
   by_cases e6:off % 2^bits.toNat≠0∨2^s.toNat-cnt*2^bits.toNat < off∨(obj=1∧s≤bits)
   ·rw [if_pos e6] at hR
    repeat' (with_reducible refine JD (fun _=>?_) (fun _=>?_))
    all_goals first
     | exact Zjs (by decide) hR
     | (exfalso; simp only [JX, JW, JP, JV, JQ, JT, JZ, JR, JO, JS, JY, J0, Bool.not_eq_true, Bool.not_eq_false, Bool.not_eq_true', Bool.not_eq_false', Bool.and_eq_true, Bool.or_eq_true, decide_eq_true_eq, decide_eq_false_iff_not, Bool.false_eq_true, Bool.true_eq_false, Option.bind_some, Option.some.injEq, false_iff, true_iff, iff_false, iff_true] at *; rw [n5' (by omega)] at *; first | omega | grind)
     | (exfalso; simp only [JX, JW, JP, JV, JQ, JT, JZ, JR, JO, JS, JY, J0, Bool.not_eq_true, Bool.not_eq_false, Bool.not_eq_true', Bool.not_eq_false', Bool.and_eq_true, Bool.or_eq_true, decide_eq_true_eq, decide_eq_false_iff_not, Bool.false_eq_true, Bool.true_eq_false, Option.bind_some, Option.some.injEq, false_iff, true_iff, iff_false, iff_true] at *; first | omega | grind)
   ·rw [if_neg e6] at hR
    have hL:∀ fl,VN ZB obj bits level width off cnt 1 b s r w l d fl (2^bits.toNat) [] 0=some (Y2 obj (b+off) (2^bits.toNat) bits r (if fl=true then width else 0) (if fl=true then level else 0) d cnt.toNat,0):=fun fl=>loop fl (by omega)
    have n5:=n5' (by omega)
    simp only [hL,Wg,hR,if_true,n5]
    have hfl:(cop .eql obj 3=true)=(obj=3):=by simp only [JX,JW,JP,JV,JQ,JT,JZ,JR,JO,JS,JY,J0,Bool.not_eq_true,Bool.not_eq_false,Bool.not_eq_true',Bool.not_eq_false',Bool.and_eq_true,Bool.or_eq_true,decide_eq_true_eq,decide_eq_false_iff_not,Bool.false_eq_true,Bool.true_eq_false,Option.bind_some,Option.some.injEq,false_iff,true_iff,iff_false,iff_true]
    simp only [hfl]
    repeat' (with_reducible refine JD (fun _=>?_) (fun _=>?_))
    all_goals first
     | rfl
     | (exfalso; simp only [JX, JW, JP, JV, JQ, JT, JZ, JR, JO, JS, JY, J0, Bool.not_eq_true, Bool.not_eq_false, Bool.not_eq_true', Bool.not_eq_false', Bool.and_eq_true, Bool.or_eq_true, decide_eq_true_eq, decide_eq_false_iff_not, Bool.false_eq_true, Bool.true_eq_false, Option.bind_some, Option.some.injEq, false_iff, true_iff, iff_false, iff_true] at *; first | omega | grind)
 ·repeat' (with_reducible refine JD (fun _=>?_) (fun _=>?_))
  all_goals first
   | exact Zjs (by decide) (by simp only [JX, JW, JP, JV, JQ, JT, JZ, JR, JO, JS, JY, J0, Bool.not_eq_true, Bool.not_eq_false, Bool.not_eq_true', Bool.not_eq_false', Bool.and_eq_true, Bool.or_eq_true, decide_eq_true_eq, decide_eq_false_iff_not, Bool.false_eq_true, Bool.true_eq_false, Option.bind_some, Option.some.injEq, false_iff, true_iff, iff_false, iff_true] at *; simp only [Zct]; grind)
   | (exfalso; simp only [JX, JW, JP, JV, JQ, JT, JZ, JR, JO, JS, JY, J0, Bool.not_eq_true, Bool.not_eq_false, Bool.not_eq_true', Bool.not_eq_false', Bool.and_eq_true, Bool.or_eq_true, decide_eq_true_eq, decide_eq_false_iff_not, Bool.false_eq_true, Bool.true_eq_false, Option.bind_some, Option.some.injEq, false_iff, true_iff, iff_false, iff_true] at *; grind)
end Go.Proofs.YtjldbnbdcmfbmaaGreat
end

section
namespace Go.Proofs.YtjldbnbdcmfbmaaGreat
open Go Go.AM
set_option linter.unusedSimpArgs false
set_option linter.unusedVariables false
set_option maxRecDepth 100000
def Ret {α:Type} (P:α→Prop) (o:Option α):Prop:=∃ r,o=some r∧P r
theorem Zg {α:Type} {P:α→Prop} {a:α} (h:P a):Ret P (some a):=⟨a,rfl,h⟩
theorem Zc {α β:Type} {P:β→Prop} {Q:α→Prop} {o:Option α} {f:α→Option β} (h:Ret Q o) (k:∀ r,Q r→Ret P (f r)):Ret P (o.bind f):=by
 obtain ⟨r,rfl,hr⟩:=h
 exact k r hr
theorem Zl {α:Type} {P:α→Prop} {c:Prop} {_:Decidable c} {a b:Option α} (h1:c→Ret P a) (h2:¬ c→Ret P b):Ret P (if c then a else b):=by
 split
 ·exact h1 ‹_›
 ·exact h2 ‹_›
theorem Zk {α:Type} {P:α→Prop} {p:Prop} {_:Decidable p} {x:Option α} (h:p) (k:Ret P x):Ret P (Zz p x):=by
 rw [Zj h];exact k
theorem Ze {α:Type} {P:α→Prop} {a b:Option α} (h:a=b) (k:Ret P b):Ret P a:=h ▸ k
theorem Zku {α:Type} {P Q:α→Prop} {o:Option α} (h:Ret P o) (k:∀ r,P r→Q r):Ret Q o:=by
 obtain ⟨r,e,hr⟩:=h
 exact ⟨r,e,k r hr⟩
theorem Jc {α β:Type} {P:β→Prop} {o:Option α} {a:α} {f:α→Option β} (h:o=some a) (k:Ret P (f a)):Ret P (o.bind f):=by
 subst h;exact k
theorem Km {σ γ:Type} {P:γ→Prop} {F:Nat→σ→Int→Option γ} {n:Nat} (J:Nat→σ→Prop) (hn:n < 2^63)
  (step:∀ (k i:Nat) (s:σ),i < n→J i s→(∀ s',J (i+1) s'→Ret P (F k s' ((i+1:Nat):Int)))→Ret P (F (k+1) s (i:Int)))
  (last:∀ (k:Nat) (s:σ),J n s→Ret P (F (k+1) s (n:Int))) (s:σ) (h:J 0 s):Ret P (F ZB s 0):=by
 have key:∀ (j i fuel:Nat) (s:σ),i+j=n→j < fuel→J i s→Ret P (F fuel s (i:Int)):=by
  intro j
  induction j with
  | zero =>
   intro i fuel s h hf hj
   obtain ⟨q,rfl⟩:∃ q,fuel=q+1:=⟨fuel-1,by omega⟩
   have:i=n:=by omega
   subst this
   exact last q s hj
  | succ j ih =>
   intro i fuel s h hf hj
   obtain ⟨q,rfl⟩:∃ q,fuel=q+1:=⟨fuel-1,by omega⟩
   exact step q i s (by omega) hj fun s' hs=>ih (i+1) q s' (by omega) (by omega) hs
 exact key n 0 ZB s (by omega) (by have:=WJ hn;omega) h
theorem place (x n:Int) (h1:1≤n) (h2:n < 2^62):Ret (fun r=>0≤r∧r < n) (g13 x n):=⟨_,s13 x n h1 h2,Int.emod_nonneg x (by omega),Int.emod_lt_of_pos x (by omega)⟩
theorem Zp (l:List Int) (z:Int):Ret (fun _=>True) (g21 (Za l) z):=by
 rw [ZqX]
 refine Zl (fun _=>Zg trivial) fun h1=>Zl (fun _=>Zg trivial) fun h2=>?_
 simp only [CQ,Z4] at h1 h2
 have e:z=((z.toNat:Nat):Int):=by omega
 have hl:z.toNat < l.length:=by omega
 have:=Z3 (γ:=Int) hl (fun r=>some r)
 rw [← e] at this
 exact Ze this (Zg trivial)
theorem ZbS {γ:Type} {P:γ→Prop} {l:List Int} {z:Int} {k:Int→Option γ} (h0:0≤z) (h:z.toNat < l.length) (hk:Ret P (k l[z.toNat])):Ret P (Zm (Za l) z [.int .i64] k):=by
 have e:z=((z.toNat:Nat):Int):=by omega
 have:=Z3 h k
 rw [← e] at this
 exact Ze this hk
theorem KR {γ:Type} {P:γ→Prop} {l:List ZD} {z:Int} {k:ShsT Zc0→Option γ} (h0:0≤z) (h:z.toNat < l.length) (hk:Ret P (k (Yl l[z.toNat]))):Ret P (Zm (l.map Zf) z Zc0 k):=by
 have e:z=((z.toNat:Nat):Int):=by omega
 have:=Zo h k
 rw [← e] at this
 exact Ze this hk
def ZoV (c:Cap):List AV:=[I c.kind,I c.base,I c.bits,I c.rights,I c.width,I c.level,B c.device]
abbrev Zop:List Sh:=[.int .i64,.int .i64,.int .i64,.int .i64,.int .i64,.int .i64,.bool]
def ZuZ (c:Cap):ShsT Zop:=(c.kind,c.base,c.bits,c.rights,c.width,c.level,c.device)
theorem ZaZ {γ:Type} {l:List Cap} {i:Nat} (h:i < l.length) (k:ShsT Zop→Option γ):Zm (l.map ZoV) (i:Int) Zop k=k (ZuZ l[i]):=Ys (fun _=>rfl) h k
def atP {α:Type} (q:α→Bool) (p:List α) (i:Nat):Bool:=match p[i]? with | some x=>q x | none=>false
theorem ZeS {α:Type} (q:α→Bool) {p:List α} {i:Nat} (h:i < p.length):atP q p i=q p[i]:=by unfold atP;rw [List.getElem?_eq_getElem h]
def idE (i:Id) (e:ZD):Bool:=decide (e.node.id=i)
def plE (c s:Int) (e:ZD):Bool:=decide (e.core=c)&&decide (e.slot=s)
theorem ZCU (l:List ZD) (hn:l.length < 2^63) (j:Id):Zy4 (l.map Zf) j.core j.op j.part=some (Zi4 l.length (Zfc (idE j) l)):=by
 rw [Zr0]
 exact Zhq (F:=fun k z=>ZeL k (l.map Zf) j.core j.op j.part z) (n:=l.length) (fun m=>Zi4 l.length m) (atP (idE j) l) hn
  (fun k i hi=>by
   show ZeL (k+1) _ _ _ _ _=_
   rw [ZhW,List.length_map,if_pos (Z6 hi)]
   refine (Zo hi _).trans ?_
   simp only [Yl,d2,d4,d8,d16]
   rw [Z1 hi hn,ZeS _ hi,ZjI hi,idE]
   refine JD (fun h1=>?_) fun h1=>?_
   ·rw [if_pos (by rw [YJ] at h1;rw [decide_eq_true_eq];exact h1)]
   ·rw [if_neg (by rw [YJ] at h1;rw [decide_eq_true_eq];exact h1)])
  (fun k=>by
   show ZeL (k+1) _ _ _ _ _=_
   rw [ZhW,List.length_map,if_neg (Z5 (Nat.le_refl _)),Zi4,if_neg (Nat.lt_irrefl _)]) (Zfc (idE j) l) (Zhf _ l) (fun i hi=>by
    have hl:=Zhf (idE j) l
    rw [ZeS _ (by omega)];exact Zkw _ l i (by omega) hi) (fun h=>by rw [ZeS _ h];exact Zm8 _ l h)
theorem ZEU (l:List ZD) (hn:l.length < 2^63) (c s:Int):ZB2 (l.map Zf) c s=some (Zi4 l.length (Zfc (plE c s) l)):=by
 rw [Zug]
 exact Zhq (F:=fun k z=>ZcP k (l.map Zf) c s z) (n:=l.length) (fun m=>Zi4 l.length m) (atP (plE c s) l) hn
  (fun k i hi=>by
   show ZcP (k+1) _ _ _ _=_
   rw [ZhQ,List.length_map,if_pos (Z6 hi)]
   refine (Zo hi _).trans ?_
   simp only [Yl,d2,d4,d8,d16]
   rw [Z1 hi hn,ZeS _ hi,ZjI hi,plE]
   refine JD (fun h1=>?_) fun h1=>?_
   ·simp only [CQ] at h1
    refine (Zo hi _).trans ?_
    simp only [Yl,d2,d4,d8,d16]
    refine JD (fun h2=>?_) fun h2=>?_
    ·simp only [CQ] at h2
     rw [if_pos (by simp [h1,h2])]
    ·simp only [CQ] at h2
     rw [if_neg (by simp [h2])]
   ·simp only [CQ] at h1
    rw [if_neg (by simp [h1])])
  (fun k=>by
   show ZcP (k+1) _ _ _ _=_
   rw [ZhQ,List.length_map,if_neg (Z5 (Nat.le_refl _)),Zi4,if_neg (Nat.lt_irrefl _)]) (Zfc (plE c s) l) (Zhf _ l) (fun i hi=>by
    have hl:=Zhf (plE c s) l
    rw [ZeS _ (by omega)];exact Zkw _ l i (by omega) hi) (fun h=>by rw [ZeS _ h];exact Zm8 _ l h)
structure ZuQ (l:List ZD):Prop where
 len:l.length≤100
 path:∀ e∈l,e.node.path.length≤20
theorem ZCP (l:List ZD) (h:ZuQ l):Zrc (l.map Zf)=some (l.map Zf):=by
 rw [ZuB]
 have hn:l.length < 2^63:=by have:=h.len;omega
 refine (Ztd (F:=fun k acc i=>Zek k (l.map Zf) acc i) l (fun r=>[Zf r]) hn (fun k i hi=>?_) (fun k acc i hi=>?_)).trans (by rw [Zk0])
 ·show Zek (k+1) _ _ _=_
  rw [Zgt,List.length_map,if_pos (Z6 hi)]
  refine (Zo hi _).trans ?_
  simp only [Yl,d2,d4,d8,d16]
  refine (Zo hi _).trans ?_
  refine (Zo hi _).trans ?_
  have hp:=h.path l[i] (List.getElem_mem hi)
  simp only [Yl,d2,d4,d8,d16]
  rw [s25 l[i].node (by omega),Option.bind_some]
  refine (Zj (ZA ?_ (by omega)) _).trans ?_
  ·rw [Zk0]
   have:=h.len
   simp only [List.length_map,List.length_take,List.length_append,List.length_cons,List.length_nil]
   omega
  ·rw [Z1 hi hn]
   rfl
 ·show Zek (k+1) _ _ _=_
  rw [Zgt,List.length_map,if_neg (Z5 hi)]
def Zyk (l:List ZD) (x:ZD) (r:List ZD):Prop:=∃ i,i≤l.length∧(∀ j (h:j < l.length),j < i→lte x l[j]=false)∧(∀ h:i < l.length,lte x l[i]=true)∧l.any (idE x.node.id)=false∧l.any (plE x.core x.slot)=false∧r=l.take i++[x]++l.drop i
theorem ZqU {α:Type} (q:α→Bool) (l:List α) (h:¬ cop .geq (Zi4 l.length (Zfc q l)) 0=true):l.any q=false:=by
 rw [Zk7,decide_eq_true_eq] at h
 rw [List.any_eq_false]
 intro x hx
 obtain ⟨i,hi,rfl⟩:=List.getElem_of_mem hx
 have:=Zkw q l i hi (by omega)
 simp [this]
theorem Zno {l m:List ZD} (h:ZuQ l) (hs:∀ e∈m,e∈l) (hl:m.length≤l.length):ZuQ m:=⟨by have:=h.len;omega,fun e he=>h.path e (hs e he)⟩
theorem ZEo (l:List ZD) (h:ZuQ l) (x:ZD) (hx:x.node.path.length≤20):Ret (fun r=>r=(E0,false)∨∃ m,Zyk l x m∧r=(m.map Zf,true)) (ZAE (l.map Zf) x.core x.slot x.node.id.core x.node.id.op x.node.id.part (Zb x.node.path) x.node.cap.kind x.node.cap.base x.node.cap.bits x.node.cap.rights x.node.cap.width x.node.cap.level x.node.cap.device):=by
 have hn:l.length < 2^63:=by have:=h.len;omega
 rw [ZtS,ZCU l hn x.node.id,Option.bind_some]
 refine Zl (fun _=>Zg (.inl rfl)) fun h1=>?_
 rw [ZEU l hn,Option.bind_some]
 refine Zl (fun _=>Zg (.inl rfl)) fun h2=>?_
 have n1:=ZqU _ _ h1
 have n2:=ZqU _ _ h2
 have ins:∀ (i:Nat),i≤l.length→(∀ j (h:j < l.length),j < i→lte x l[j]=false)→(∀ h:i < l.length,lte x l[i]=true)→Ret (fun r=>r=(E0,false)∨∃ m,Zyk l x m∧r=(m.map Zf,true)) (Zz ((0:Int)≤(i:Int))<|Zz ((i:Int)≤(List.length (l.map Zf):Int))<|
   (Zrc (List.take (Int.toNat (i:Int)) (l.map Zf))).bind fun (r29:LL)=>(g25 x.node.id.core x.node.id.op x.node.id.part (Zb x.node.path) x.node.cap.kind x.node.cap.base x.node.cap.bits x.node.cap.rights x.node.cap.width x.node.cap.level x.node.cap.device).bind fun r30=>
   Zz (Je r29 (E0++[[I x.core,I x.slot,I r30.1,I r30.2.1,I r30.2.2.1,AV.slice false 3 r30.2.2.2.1,I r30.2.2.2.2.1,I r30.2.2.2.2.2.1,I r30.2.2.2.2.2.2.1,I r30.2.2.2.2.2.2.2.1,I r30.2.2.2.2.2.2.2.2.1,I r30.2.2.2.2.2.2.2.2.2.1,AV.val (.bool r30.2.2.2.2.2.2.2.2.2.2)]]) 120)<|
   Zz ((0:Int)≤(i:Int))<|Zz ((i:Int)≤(List.length (l.map Zf):Int))<|(Zrc (List.drop (Int.toNat (i:Int)) (l.map Zf))).bind fun (r41:LL)=>
   Zz (Je (r29++(E0++[[I x.core,I x.slot,I r30.1,I r30.2.1,I r30.2.2.1,AV.slice false 3 r30.2.2.2.1,I r30.2.2.2.2.1,I r30.2.2.2.2.2.1,I r30.2.2.2.2.2.2.1,I r30.2.2.2.2.2.2.2.1,I r30.2.2.2.2.2.2.2.2.1,I r30.2.2.2.2.2.2.2.2.2.1,AV.val (.bool r30.2.2.2.2.2.2.2.2.2.2)]])) r41 120)<|
   some (((r29++(E0++[[I x.core,I x.slot,I r30.1,I r30.2.1,I r30.2.2.1,AV.slice false 3 r30.2.2.2.1,I r30.2.2.2.2.1,I r30.2.2.2.2.2.1,I r30.2.2.2.2.2.2.1,I r30.2.2.2.2.2.2.2.1,I r30.2.2.2.2.2.2.2.2.1,I r30.2.2.2.2.2.2.2.2.2.1,AV.val (.bool r30.2.2.2.2.2.2.2.2.2.2)]]))++r41),true)):=by
  intro i hi hlo hhi
  have hl:=h.len
  refine Zk (by omega) (Zk (by rw [List.length_map];omega) ?_)
  rw [Int.toNat_natCast,← List.map_take,← List.map_drop,ZCP _ (Zno h (fun e he=>List.mem_of_mem_take he) (by simp;omega)),Option.bind_some,s25 x.node (by omega),Option.bind_some]
  refine Zk (ZA (by simp;omega) (by omega)) (Zk (by omega) (Zk (by rw [List.length_map];omega) ?_))
  rw [ZCP _ (Zno h (fun e he=>List.mem_of_mem_drop he) (by simp)),Option.bind_some]
  refine Zk (ZA (by simp;omega) (by omega)) (Zg (.inr ⟨_,⟨i,hi,hlo,hhi,n1,n2,rfl⟩,?_⟩))
  simp [Zf,ZlO]
 refine Km (F:=fun k (_:Unit) z=>Zes k (l.map Zf) x.core x.slot x.node.id.core x.node.id.op x.node.id.part (Zb x.node.path) x.node.cap.kind x.node.cap.base x.node.cap.bits x.node.cap.rights x.node.cap.width x.node.cap.level x.node.cap.device z) (n:=l.length) (fun i _=>∀ j (h:j < l.length),j < i→lte x l[j]=false) hn (fun k i _ hi hJ ih=>?_) (fun k _ hJ=>?_) () (fun j _ h0=>absurd h0 (Nat.not_lt_zero _))
 ·show Ret _ (Zes (k+1) _ _ _ _ _ _ _ _ _ _ _ _ _ _ _)
  rw [Zhb,List.length_map,if_pos (Z6 hi)]
  refine Ze (Zo hi _) ?_
  simp only [Yl,d2,d4,d8,d16]
  rw [s82,Option.bind_some]
  refine Zl (fun hc=>?_) fun hc=>?_
  ·rw [Z1 hi hn]
   refine ih () fun j h1 h2=>?_
   by_cases hji:j < i
   ·exact hJ j h1 hji
   ·have:j=i:=by omega
    subst this
    rw [Bool.not_eq_true'] at hc
    exact hc
  ·have:=ins i (by omega) hJ fun _=>by rw [Bool.not_eq_true',Bool.not_eq_false] at hc;exact hc
   rw [List.length_map] at this
   exact this
 ·show Ret _ (Zes (k+1) _ _ _ _ _ _ _ _ _ _ _ _ _ _ _)
  rw [Zhb,List.length_map,if_neg (Z5 (Nat.le_refl _))]
  have:=ins l.length (Nat.le_refl _) hJ fun h=>absurd h (Nat.lt_irrefl _)
  rw [List.length_map] at this
  exact this
theorem s85 (l:List ZD) (h:ZuQ l) (x:ZD) (hx:x.node.path.length≤20):Ret (fun r=>∃ m,(m=l∨Zyk l x m)∧r=m.map Zf) (g85 (l.map Zf) x.core x.slot x.node.id.core x.node.id.op x.node.id.part (Zb x.node.path) x.node.cap.kind x.node.cap.base x.node.cap.bits x.node.cap.rights x.node.cap.width x.node.cap.level x.node.cap.device):=by
 rw [Zwx]
 refine Zc (ZEo l h x hx) fun r hr=>?_
 rcases hr with rfl | ⟨m,hm,rfl⟩
 ·exact Zl (fun _=>Zg ⟨l,.inl rfl,rfl⟩) fun h=>absurd rfl h
 ·exact Zl (fun h=>absurd h (by simp)) fun _=>Zg ⟨m,.inr hm,rfl⟩
structure Zoj (s:J4) (i:Id) (c:Cap):Prop where
 src:ZR s=true
 id:VA i=true
 cap:Yu c=true
 ne:i≠s.id
 fresh:s.path.contains i=false
 room:s.path.length < 8
def Zc8 (s:J4) (i:Id) (c:Cap):J4:=⟨i,s.path++[s.id],c⟩
theorem s88 (s:J4) (hs:s.path.length≤20) (i:Id) (c:Cap):Ret (fun r=>(∃ e:Int,e≠0∧r=(0,0,0,E0,0,0,0,0,0,0,false,e))∨(Zoj s i c∧r=(i.core,i.op,i.part,Zb (s.path++[s.id]),c.kind,c.base,c.bits,c.rights,c.width,c.level,c.device,0)))
  (g88 s.id.core s.id.op s.id.part (Zb s.path) s.cap.kind s.cap.base s.cap.bits s.cap.rights s.cap.width s.cap.level s.cap.device i.core i.op i.part c.kind c.base c.bits c.rights c.width c.level c.device):=by
 rw [Zyp,s61 s (by omega),Option.bind_some]
 refine Zl (fun _=>Zg (.inl ⟨1,by omega,rfl⟩)) fun h1=>?_
 rw [ZzS,Option.bind_some]
 refine Zl (fun _=>Zg (.inl ⟨1,by omega,rfl⟩)) fun h2=>?_
 rw [ZBE,Option.bind_some]
 refine Zl (fun _=>Zg (.inl ⟨1,by omega,rfl⟩)) fun h3=>?_
 refine Zl (fun _=>Zg (.inl ⟨1,by omega,rfl⟩)) fun h4=>?_
 rw [YJ] at h4
 rw [s78 s.path (by omega),Option.bind_some]
 refine Zl (fun _=>Zg (.inl ⟨1,by omega,rfl⟩)) fun h5=>?_
 refine Zl (fun _=>Zg (.inl ⟨9,by omega,rfl⟩)) fun h6=>?_
 rw [s76 s.path (by omega),Option.bind_some]
 refine Zk (ZA (by rw [ZU];simp;omega) (by omega)) (Zg (.inr ⟨?_,?_⟩))
 ·simp only [Bool.not_eq_true',Bool.not_eq_false] at h1 h2 h3
  simp only [Bool.not_eq_true] at h5
  have h8:=ZiA h1
  simp only [CQ,ZU] at h6
  exact ⟨h1,h2,h3,h4,h5,by omega⟩
 ·simp [Zb,idc]
end Go.Proofs.YtjldbnbdcmfbmaaGreat
end

section
namespace Go.Proofs.YtjldbnbdcmfbmaaGreat
open Go Go.AM
set_option linter.unusedSimpArgs false
set_option linter.unusedVariables false
set_option maxRecDepth 100000
theorem Zsc {a b:Int} (h0:0≤b) (h1:b≤62) (h2:0≤a) (h3:a*2^b.toNat < 2^63):iop .shl .i64 a b=a*2^b.toNat:=by
 have hmin:min b.toNat IntKind.i64.bits=b.toNat:=by
  have:IntKind.i64.bits=64:=rfl
  omega
 simp only [iop,hmin]
 have hp:=JM b.toNat
 have:0≤a*2^b.toNat:=Int.mul_nonneg h2 (by omega)
 rw [KO (by omega) h3]
theorem ZEe (a b:Int):Ret (fun r=>∃ k q:Int,r=(q*2^k.toNat,k)∧6≤k∧k≤16∧0≤q∧q < 2^(16-k).toNat) (ZBn a b):=by
 rw [Zuq]
 refine Zc (place b 11 (by omega) (by omega)) fun x hx=>?_
 obtain ⟨k,hk⟩:∃ k,k=6+x:=⟨_,rfl⟩
 have e1:iop .add .i64 6 x=k:=by rw [JH (by omega) (by omega),hk]
 have e2:iop .sub .i64 16 k=16-k:=Zd3 (by omega) (by omega)
 have w1:IntKind.wrap .u64 (16-k)=16-k:=JL (by omega) (by omega)
 have w2:IntKind.wrap .u64 k=k:=JL (by omega) (by omega)
 have hp:(2:Int)^(16-k).toNat < 2^62:=by
  have:=ZfC (m:=(16-k).toNat) (n:=16) (by omega)
  have e:(2:Int)^16=65536:=by decide
  have e:(2:Int)^62=4611686018427387904:=by decide
  omega
 have hp1:=JM (16-k).toNat
 rw [e1,e2,w1,w2,ZuM (by omega)]
 refine Zk (by omega) (Zc (place a _ (by omega) hp) fun q hq=>Zk (by omega) (Zg ⟨k,q,?_,by omega,by omega,hq.1,hq.2⟩))
 have hm:q*2^k.toNat < 2^63:=by
  have h1:q*2^k.toNat≤2^(16-k).toNat*2^k.toNat:=Int.mul_le_mul_of_nonneg_right (by omega) (by have:=JM k.toNat;omega)
  rw [← Int.pow_add,show (16-k).toNat+k.toNat=16 by omega] at h1
  have e:(2:Int)^16=65536:=by decide
  have e:(2:Int)^63=9223372036854775808:=by decide
  omega
 rw [Zsc (by omega) (by omega) hq.1 hm]
theorem s83 (a b:Int):Ret (fun r=>∃ c:Cap,r=ZuZ c∧Yu c=true) (g83 a b):=by
 rw [Zxd]
 refine Zc (ZEe a b) fun r ⟨k,q,hr,h1,h2,h3,h4⟩=>?_
 subst hr
 refine Zg ⟨⟨1,q*2^k.toNat,k,7,0,0,false⟩,rfl,?_⟩
 have hm:(q+1)*2^k.toNat≤65536:=by
  have h5:(q+1)*2^k.toNat≤2^(16-k).toNat*2^k.toNat:=Int.mul_le_mul_of_nonneg_right (by omega) (by have:=JM k.toNat;omega)
  rw [← Int.pow_add,show (16-k).toNat+k.toNat=16 by omega] at h5
  have e:(2:Int)^16=65536:=by decide
  omega
 rw [Int.add_mul,Int.one_mul] at hm
 have h6:0≤q*2^k.toNat:=Int.mul_nonneg h3 (by have:=JM k.toNat;omega)
 have h7:q*2^k.toNat % 2^k.toNat=0:=Int.mul_emod_left ..
 simp [Yu,VJ,Ve,h6,h7]
 omega
theorem ZpJ (c:Cap) (obj bits level width off cnt:Int):∃ cs:List Cap,Wg c obj bits level width off cnt=cs.map ZoV∧(cs.length:Int)≤max 0 cnt:=by
 unfold Wg
 split
 ·refine ⟨(List.range cnt.toNat).map fun (j:Nat)=>⟨obj,c.base+off+(j:Int)*2^bits.toNat,bits,c.rights,if obj=3 then width else 0,if obj=3 then level else 0,c.device⟩,?_,by simp;omega⟩
  rw [List.map_map];rfl
 ·exact ⟨[],rfl,by simp;omega⟩
theorem l84 (rec0:List V→Option Bool) (l:List ZD) (hn:l.length < 2^63) (cs:List Cap) (m i:Nat) (hi:i < cs.length) (ih':Ret (fun _=>True) (rec0 [.l (l.map Zf),.l (cs.map ZoV),.i (Zi4 l.length m),.i (iop .add .i64 (i:Int) 1)])) :
  Ret (fun _=>True) (ZcA rec0 ZB (l.map Zf) (cs.map ZoV) (Zi4 l.length m) (i:Int) 0):=by
 refine Km (P:=fun _=>True) (F:=fun k2 (_:Unit) z=>ZcA rec0 k2 (l.map Zf) (cs.map ZoV) (Zi4 l.length m) (i:Int) z) (n:=l.length) (fun _ _=>True) hn (fun k2 t _ ht _ ih2=>?_) (fun k2 _ _=>?_) () trivial
 ·show Ret _ (ZcA _ (k2+1) _ _ _ _ _)
  rw [ZjX,List.length_map,if_pos (Z6 ht)]
  refine Ze (Zo ht _) ?_
  simp only [Yl,d2,d4,d8,d16]
  have nxt:Ret (fun _=>True) (ZcA rec0 k2 (l.map Zf) (cs.map ZoV) (Zi4 l.length m) (i:Int) (iop .add .i64 (t:Int) 1)):=by rw [Z1 ht hn];exact ih2 () trivial
  refine Zl (fun h1=>?_) fun h1=>?_
  ·rw [Zk7,decide_eq_true_eq] at h1
   refine Zl (fun h2=>?_) fun h2=>?_
   ·rw [Zrb,Option.bind_some]
    refine Ze (congrArg (fun z=>Zm (l.map Zf) z _ _) (ZjI h1)) ?_
    refine Ze (Zo h1 _) ?_
    simp only [Yl,d2,d4,d8,d16]
    rw [Zrb,Option.bind_some,ZDC,Option.bind_some,Option.bind_some]
    refine Ze (ZaZ hi _) ?_
    simp only [ZuZ]
    rw [Zrb,Option.bind_some,ZAe,Option.bind_some]
    exact Zl (fun _=>Zl (fun _=>Zg trivial) fun _=>nxt) fun _=>nxt
   ·rw [Zrb,Option.bind_some]
    refine Ze (ZaZ hi _) ?_
    simp only [ZuZ]
    rw [Zrb,Option.bind_some,ZAe,Option.bind_some]
    exact Zl (fun _=>Zg trivial) fun _=>nxt
  ·rw [Zrb,Option.bind_some]
   refine Ze (ZaZ hi _) ?_
   simp only [ZuZ]
   rw [Zrb,Option.bind_some,ZAe,Option.bind_some]
   exact Zl (fun _=>Zg trivial) fun _=>nxt
 ·show Ret _ (ZcA _ (k2+1) _ _ _ _ _)
  rw [ZjX,List.length_map,if_neg (Z5 (Nat.le_refl _))]
  exact ih'
theorem s84 (l:List ZD) (hn:l.length < 2^63) (j:Id) (cs:List Cap) (hc:cs.length < 2^63):Ret (fun _=>True) (g84 (l.map Zf) j.core j.op j.part (cs.map ZoV)):=by
 rw [ZxL,ZCU l hn j,Option.bind_some]
 generalize hm:Zfc (idE j) l=m
 refine Km (F:=fun k (_:Unit) z=>Znb k (l.map Zf) (cs.map ZoV) (Zi4 l.length m) z) (n:=cs.length) (fun _ _=>True) hc (fun k i _ hi _ ih=>?_) (fun k _ _=>?_) () trivial
 ·show Ret _ (Znb (k+1) _ _ _ _)
  rw [Zkk,List.length_map,if_pos (Z6 hi)]
  exact l84 _ l hn cs m i hi (by rw [Z1 hi hc];exact ih () trivial)
 ·show Ret _ (Znb (k+1) _ _ _ _)
  rw [Zkk,List.length_map,if_neg (Z5 (Nat.le_refl _))]
  exact Zg trivial
structure EOk (e:ZD):Prop where
 c0:0≤e.core
 c1:e.core < 4
 s0:0≤e.slot
 s1:e.slot < 16
 ic:e.node.id.core=e.core
 o1:1≤e.node.id.op
 o2:e.node.id.op≤40
 p0:0≤e.node.id.part
 p1:e.node.id.part < 3
 ok:ZR e.node=true
structure FOk (l:List ZD) (n:Nat):Prop where
 len:l.length≤n
 all:∀ e∈l,EOk e
 asc:l.Pairwise fun a b=>lte a b=true
theorem J8 {n:J4} (h:ZR n=true):VA n.id=true∧Yu n.cap=true∧n.path.length≤8∧(List.range n.path.length).all (KZ n)=true:=by
 simp only [ZR,Bool.and_eq_true,decide_eq_true_eq] at h
 exact ⟨h.1.1.1,h.1.1.2,h.1.2,h.2⟩
theorem FOk.few {l:List ZD} {n:Nat} (h:FOk l n) (hn:n≤100):ZuQ l:=⟨by have:=h.len;omega,fun e he=>by have:=(J8 (h.all e he).ok).2.2.1;omega⟩
theorem Zis {a b:ZD} : lte a b=true↔(a.node.id.core < b.node.id.core∨(a.node.id.core=b.node.id.core∧(a.node.id.op < b.node.id.op∨(a.node.id.op=b.node.id.op∧a.node.id.part < b.node.id.part)))):=by simp [lte,ZyF,ZuV]
theorem ZnF {a b c:ZD} (h1:lte a b=true) (h2:lte b c=true):lte a c=true:=by
 rw [Zis] at *; omega
theorem Zor {a b:ZD} (h:lte a b=false) (hne:a.node.id≠b.node.id):lte b a=true:=by
 rw [← Bool.not_eq_true,Zis] at h
 rw [Zis]
 have:¬ (a.node.id.core=b.node.id.core∧a.node.id.op=b.node.id.op∧a.node.id.part=b.node.id.part):=fun ⟨e1,e2,e3⟩=>hne (by cases ha:a.node.id;cases hb:b.node.id;simp_all)
 omega
theorem ZpR {l m:List ZD} {x:ZD} (h:l.Pairwise fun a b=>lte a b=true) (ha:Zyk l x m):m.Pairwise fun a b=>lte a b=true:=by
 obtain ⟨i,hi,hlo,hhi,hid,_,rfl⟩:=ha
 have hge:∀ j (hj:j < l.length),i≤j→lte x l[j]=true:=by
  intro j hj hij
  have h1:lte x (l[i]'(by omega))=true:=hhi (by omega)
  by_cases hji:j=i
  ·subst hji;exact h1
  ·exact ZnF h1 (List.pairwise_iff_getElem.1 h i j (by omega) hj (by omega))
 rw [List.pairwise_append,List.pairwise_append]
 refine ⟨⟨h.take,List.pairwise_singleton ..,fun a ha b hb=>?_⟩,h.drop,fun a ha b hb=>?_⟩
 ·rw [List.mem_singleton] at hb
  subst hb
  obtain ⟨j,hj,rfl⟩:=List.getElem_of_mem ha
  rw [List.length_take] at hj
  rw [List.getElem_take]
  refine Zor (hlo j (by omega) (by omega)) fun he=>?_
  rw [List.any_eq_false] at hid
  have:=hid _ (List.getElem_mem (show j < l.length by omega))
  rw [idE,decide_eq_true_eq] at this
  exact this he.symm
 ·obtain ⟨k,hk,rfl⟩:=List.getElem_of_mem hb
  rw [List.length_drop] at hk
  rw [List.getElem_drop]
  rw [List.mem_append,List.mem_singleton] at ha
  rcases ha with ha | rfl
  ·obtain ⟨j,hj,rfl⟩:=List.getElem_of_mem ha
   rw [List.length_take] at hj
   rw [List.getElem_take]
   exact List.pairwise_iff_getElem.1 h j (i+k) (by omega) (by omega) (by omega)
  ·exact hge (i+k) (by omega) (by omega)
theorem ZnT {l m:List ZD} {x:ZD} {n:Nat} (h:FOk l n) (hx:EOk x) (ha:m=l∨Zyk l x m):FOk m (n+1):=by
 rcases ha with rfl | ha
 ·exact ⟨by have:=h.len;omega,h.all,h.asc⟩
 ·have hasc:=ZpR h.asc ha
  obtain ⟨i,hi,_,_,_,_,rfl⟩:=ha
  refine ⟨by have:=h.len;simp;omega,fun e he=>?_,hasc⟩
  simp only [List.mem_append,List.mem_singleton] at he
  rcases he with (he | rfl) | he
  ·exact h.all e (List.mem_of_mem_take he)
  ·exact hx
  ·exact h.all e (List.mem_of_mem_drop he)
theorem Zos (i:Id) (c:Cap) (hi:VA i=true) (hc:Yu c=true):ZR ⟨i,[],c⟩=true:=by simp [ZR,hi,hc]
theorem ZjP {s:J4} {i:Id} {c:Cap} (h:Zoj s i c):ZR (Zc8 s i c)=true:=by
 obtain ⟨k1,k2,k3,k4⟩:=J8 h.src
 have hr:=h.room
 simp only [ZR,Zc8,Bool.and_eq_true,decide_eq_true_eq,h.id,h.cap,true_and,List.length_append,List.length_cons,List.length_nil]
 refine ⟨by omega,?_⟩
 rw [List.all_eq_true] at k4 ⊢
 intro j hj
 rw [List.mem_range] at hj
 by_cases hjl:j < s.path.length
 ·have:=k4 j (List.mem_range.2 hjl)
  simp only [KZ,List.getElem?_eq_getElem hjl] at this
  simp only [KZ,List.getElem?_append_left hjl,List.getElem?_eq_getElem hjl,List.take_append_of_le_length (Nat.le_of_lt hjl)]
  simp only [Bool.and_eq_true,decide_eq_true_eq] at this ⊢
  refine ⟨⟨this.1.1,fun he=>?_⟩,this.2⟩
  have hf:=h.fresh
  rw [← he] at hf
  simp at hf
 ·have hje:j=s.path.length:=by omega
  subst hje
  simp only [KZ,List.getElem?_append_right (Nat.le_refl _),Nat.sub_self,List.getElem?_cons_zero,List.take_left]
  simp only [Bool.and_eq_true,decide_eq_true_eq]
  refine ⟨⟨k1,fun he=>h.ne he.symm⟩,?_⟩
  rw [Bool.not_eq_true',← Bool.not_eq_true,List.contains_iff_mem]
  intro hm
  obtain ⟨t,ht,hte⟩:=List.getElem_of_mem hm
  have:=k4 t (List.mem_range.2 ht)
  simp only [KZ,List.getElem?_eq_getElem ht,hte] at this
  simp at this
theorem l31 (src:J4) (hs:src.path.length≤20) (root:Bool) (op core slot:Int) (hc0:0≤core) (hc1:core < 4) (hs0:0≤slot) (hs1:slot < 8) (h1:1≤op) (h2:op≤40) (cs:List Cap) (hcs:cs.length≤3) (l:List ZD) (n:Nat) (hn:n≤60) (h:FOk l n) :
  Ret (fun r=>∃ m,FOk m (n+3)∧r=m.map Zf) (Zg8 ZB (l.map Zf) op core slot src.id.core src.id.op src.id.part (Zb src.path) src.cap.kind src.cap.base src.cap.bits src.cap.rights src.cap.width src.cap.level src.cap.device (cs.map ZoV) 0):=by
 refine Km (F:=fun k (s:LL) z=>Zg8 k s op core slot src.id.core src.id.op src.id.part (Zb src.path) src.cap.kind src.cap.base src.cap.bits src.cap.rights src.cap.width src.cap.level src.cap.device (cs.map ZoV) z) (n:=cs.length) (fun i s=>∃ m,FOk m (n+i)∧s=m.map Zf) (by omega) (fun k i s hi hj ih=>?_) (fun k s hj=>?_) _ ⟨l,h,rfl⟩
 ·obtain ⟨m,hm,rfl⟩:=hj
  show Ret _ (Zg8 (k+1) _ _ _ _ _ _ _ _ _ _ _ _ _ _ _ _ _)
  rw [ZkG,List.length_map,if_pos (Z6 hi)]
  refine Ze (ZaZ hi _) ?_
  simp only [ZuZ]
  refine Zc (s88 src hs ⟨core,op,(i:Int)⟩ cs[i]) fun r hr=>?_
  rcases hr with ⟨e,he,rfl⟩ | ⟨hk,rfl⟩
  ·refine Zl (fun _=>Zg ⟨m,⟨by have:=hm.len;omega,hm.all,hm.asc⟩,rfl⟩) fun hh=>?_
   simp only [CQ] at hh
   exact absurd hh (by omega)
  ·refine Zl (fun hh=>absurd hh (by simp [cop])) fun _=>?_
   have ho:=J8 (ZjP hk)
   have hx:EOk ⟨core,slot+i,Zc8 src ⟨core,op,(i:Int)⟩ cs[i]⟩:=⟨hc0,hc1,by show 0≤slot+i;omega,by show slot+i < 16;omega,rfl,h1,h2,by show (0:Int)≤i;omega,by show (i:Int) < 3;omega,ZjP hk⟩
   have ea:iop .add .i64 slot (i:Int)=slot+i:=JH (by omega) (by omega)
   rw [ea]
   refine Zc (s85 m (hm.few (by omega)) ⟨core,slot+i,Zc8 src ⟨core,op,(i:Int)⟩ cs[i]⟩ (by have:=ho.2.2.1;show (Zc8 src ⟨core,op,(i:Int)⟩ cs[i]).path.length≤20;omega)) fun r ⟨m',hm',hr⟩=>?_
   subst hr
   rw [Z1 hi (by omega)]
   exact ih _ ⟨m',ZnT hm hx hm',rfl⟩
 ·obtain ⟨m,hm,rfl⟩:=hj
  show Ret _ (Zg8 (k+1) _ _ _ _ _ _ _ _ _ _ _ _ _ _ _ _ _)
  rw [ZkG,List.length_map,if_neg (Z5 (Nat.le_refl _))]
  exact Zg ⟨m,⟨by have:=hm.len;omega,hm.all,hm.asc⟩,rfl⟩
theorem ZDa (l:List ZD) (n:Nat) (hn:n≤60) (h:FOk l n) (core slot op base bits:Int) (hc0:0≤core) (hc1:core < 4) (hs0:0≤slot) (hs1:slot < 8) (h1:1≤op) (h2:op≤40) :
    Ret (fun r=>∃ m,FOk m (n+3)∧r=m.map Zf) ((g83 base bits).bind fun r14=>
 (g84 (l.map Zf) 0 0 0 (E0++[[I r14.1,I r14.2.1,I r14.2.2.1,I r14.2.2.2.1,I r14.2.2.2.2.1,I r14.2.2.2.2.2.1,AV.val (.bool r14.2.2.2.2.2.2)]])).bind fun (r21:Bool)=>
 if r21=true then some (l.map Zf) else
 (g85 (l.map Zf) core slot core op 0 E0 r14.1 r14.2.1 r14.2.2.1 r14.2.2.2.1 r14.2.2.2.2.1 r14.2.2.2.2.2.1 r14.2.2.2.2.2.2).bind fun (r22:LL)=>some (r22)):=by
  refine Zc (s83 base bits) fun r ⟨c,hr,hc⟩=>?_
  subst hr
  have hl:=h.len
  refine Zc (s84 l (by omega) ⟨0,0,0⟩ [c] (by simp)) fun b _=>?_
  refine Zl (fun _=>Zg ⟨l,⟨by omega,h.all,h.asc⟩,rfl⟩) fun _=>?_
  have hi:VA ⟨core,op,0⟩=true:=by simp [VA];omega
  have hx:EOk ⟨core,slot,⟨⟨core,op,0⟩,[],c⟩⟩:=⟨hc0,hc1,hs0,by show slot < 16;omega,rfl,h1,h2,Int.le_refl _,by show (0:Int) < 3;omega,Zos _ _ hi hc⟩
  refine Zc (s85 l (h.few (by omega)) ⟨core,slot,⟨⟨core,op,0⟩,[],c⟩⟩ (by simp)) fun r ⟨m',hm',hr⟩=>?_
  subst hr
  have:=ZnT h hx hm'
  exact Zg ⟨m',⟨by have:=this.len;omega,this.all,this.asc⟩,rfl⟩
theorem s31 (l:List ZD) (n:Nat) (hn:n≤60) (h:FOk l n) (root copy:Bool) (src core slot kind base bits count rights op:Int) (h1:1≤op) (h2:op≤40) :
  Ret (fun r=>∃ m,FOk m (n+3)∧r=m.map Zf) (g31 (l.map Zf) root src core slot kind base bits count rights copy op):=by
 have hl:=h.len
 rw [Zwk]
 refine Zc (place core 4 (by omega) (by omega)) fun c hc=>Zc (place slot 8 (by omega) (by omega)) fun s hs=>?_
 refine Zl (fun _=>ZDa l n hn h c s op base bits hc.1 hc.2 hs.1 hs.2 h1 h2) fun _=>?_
 refine Zl (fun _=>ZDa l n hn h c s op base bits hc.1 hc.2 hs.1 hs.2 h1 h2) fun h3=>?_
 simp only [CQ,List.length_map] at h3
 rw [List.length_map]
 refine Zc (place src _ (by omega) (by omega)) fun i hi=>?_
 have hil:i.toNat < l.length:=by omega
 refine KR hi.1 hil ?_
 simp only [Yl,d2,d4,d8,d16]
 have he:=h.all _ (List.getElem_mem hil)
 have ho:=J8 he.ok
 generalize l[i.toNat]=e at he ho
 refine Zc (place rights 8 (by omega) (by omega)) fun r28 _=>?_
 rw [s86,Option.bind_some]
 refine Zl (fun _=>?_) fun _=>?_
 ·refine Zc (place kind 6 (by omega) (by omega)) fun r36 h36=>Zc (place bits 10 (by omega) (by omega)) fun r37 h37=>?_
  have e1:iop .add .i64 6 r37=6+r37:=JH (by omega) (by omega)
  have e2:iop .sub .i64 (iop .add .i64 1 r36) 1=r36:=by rw [JH (by omega) (by omega),Zd3 (by omega) (by omega)];omega
  rw [e1,e2]
  refine ZbS (l:=[6+r37,12,12,6,10,16]) h36.1 (by simp;omega) ?_
  have hb:∀ x∈[6+r37,12,12,6,10,16],0≤x∧x≤16:=by
   intro x hx
   simp only [List.mem_cons,List.not_mem_nil,or_false] at hx
   omega
  have hb':=hb _ (List.getElem_mem (show r36.toNat < [6+r37,12,12,6,10,16].length by simp;omega))
  generalize [6+r37,12,12,6,10,16][r36.toNat]'(by simp;omega)=r38 at hb'
  refine Zc (place rights 2 (by omega) (by omega)) fun r39 _=>Zc (place base 8 (by omega) (by omega)) fun r40 _=>?_
  refine Zk (by rw [JL (by omega) (by omega)];omega) (Zc (place count 3 (by omega) (by omega)) fun r41 h41=>?_)
  rw [s87,Option.bind_some]
  refine Zl (fun _=>Zg ⟨l,⟨by omega,h.all,h.asc⟩,rfl⟩) fun _=>?_
  obtain ⟨cs,hcs,hcl⟩:=ZpJ ⟨e.node.cap.kind,e.node.cap.base,e.node.cap.bits,e.node.cap.rights,e.node.cap.width,e.node.cap.level,e.node.cap.device⟩ (iop .add .i64 1 r36) r38 r39 32 (iop .shl .i64 r40 (IntKind.wrap .u64 r38)) (iop .add .i64 1 r41)
  rw [hcs]
  have e3:iop .add .i64 1 r41=1+r41:=JH (by omega) (by omega)
  rw [e3] at hcl
  refine Zc (s84 l (by omega) e.node.id cs (by omega)) fun b _=>?_
  refine Zl (fun _=>Zg ⟨l,⟨by omega,h.all,h.asc⟩,rfl⟩) fun _=>?_
  exact l31 e.node (by omega) true op c s hc.1 hc.2 hs.1 hs.2 h1 h2 cs (by omega) l n hn h
 ·exact l31 e.node (by omega) true op c s hc.1 hc.2 hs.1 hs.2 h1 h2 [⟨e.node.cap.kind,e.node.cap.base,e.node.cap.bits,iop .and .i64 e.node.cap.rights r28,e.node.cap.width,e.node.cap.level,e.node.cap.device⟩] (by simp) l n hn h
def Zuf (s:Zq9):Bool×Int×Int×Int×Int×Int×Int×Int×Int×Bool:=(s.root,s.src,s.core,s.slot,s.kind,s.base,s.bits,s.count,s.rights,s.copy)
theorem Zmj {γ:Type} {l:List Zq9} {i:Nat} (h:i < l.length) (k:(Bool×Int×Int×Int×Int×Int×Int×Int×Int×Bool)→Option γ):Zm (l.map Vn) (i:Int) [.bool,.int .i64,.int .i64,.int .i64,.int .i64,.int .i64,.int .i64,.int .i64,.int .i64,.bool] k=k (Zuf l[i]):=Ys (f:=Vn) (sh:=[.bool,.int .i64,.int .i64,.int .i64,.int .i64,.int .i64,.int .i64,.int .i64,.int .i64,.bool]) (v:=Zuf) (fun _=>rfl) h k
theorem s11 (l:List Zq9) (hn:l.length < 2^63):Ret (fun r=>∃ m,FOk m 30∧r=m.map Zf) (g11 (l.map Vn)):=by
 rw [Zx9]
 have key:∀ (d i fuel:Nat) (m:List ZD),i+d=41→d < fuel→FOk m 30→Ret (fun r=>∃ m,FOk m 30∧r=m.map Zf) (Zo4 fuel (l.map Vn) (m.map Zf) (i:Int)):=by
  intro d
  induction d with
  | zero =>
   intro i fuel m hi hf hm
   obtain ⟨q,rfl⟩:∃ q,fuel=q+1:=⟨fuel-1,by omega⟩
   rw [Zkd]
   refine Zl (fun _=>?_) fun _=>Zg ⟨m,hm,rfl⟩
   rw [if_neg (by simp only [CQ];omega)]
   exact Zg ⟨m,hm,rfl⟩
  | succ d ih =>
   intro i fuel m hi hf hm
   obtain ⟨q,rfl⟩:∃ q,fuel=q+1:=⟨fuel-1,by omega⟩
   rw [Zkd]
   refine Zl (fun h1=>?_) fun _=>Zg ⟨m,hm,rfl⟩
   refine Zl (fun h2=>?_) fun _=>Zg ⟨m,hm,rfl⟩
   refine Zl (fun h3=>?_) fun _=>Zg ⟨m,hm,rfl⟩
   simp only [CQ,List.length_map] at h1 h2 h3
   have hil:i < l.length:=by omega
   refine Ze (Zmj hil _) ?_
   simp only [Zuf]
   have e:iop .add .i64 (i:Int) 1=((i+1:Nat):Int):=Z1 hil hn
   rw [e]
   refine Zc (s31 m 27 (by omega) ⟨by omega,hm.all,hm.asc⟩ _ _ _ _ _ _ _ _ _ _ _ (by omega) (by omega)) fun r ⟨m',hm',hr⟩=>?_
   subst hr
   exact ih (i+1) q m' (by omega) (by omega) hm'
 exact key 41 0 ZB [] rfl (by have:=@WJ 41 (by omega);omega) ⟨by simp,by simp,List.Pairwise.nil⟩
end Go.Proofs.YtjldbnbdcmfbmaaGreat
end

section
namespace Go.Proofs.YtjldbnbdcmfbmaaGreat
open Go Go.AM
set_option linter.unusedSimpArgs false
set_option linter.unusedVariables false
set_option maxRecDepth 100000
structure SOk (l:List ZD) (s:List YS):Prop where
 len:s.length=12
 spot:∀ t (h:t < s.length),s[t].op=0∧s[t].lock=zid∧(s[t].node=ZS∨∃ e∈l,e.slot=(t:Int)∧s[t].node=e.node)
theorem SOk.all {l:List ZD} {s:List YS} (h:SOk l s):∀ x∈s,x.op=0∧x.lock=zid∧(x.node=ZS∨∃ e∈l,x.node=e.node):=by
 intro x hx
 obtain ⟨t,ht,rfl⟩:=List.getElem_of_mem hx
 obtain ⟨h1,h2,h3⟩:=h.spot t ht
 exact ⟨h1,h2,h3.imp id fun ⟨e,he,_,hn⟩=>⟨e,he,hn⟩⟩
theorem SOk.few {l:List ZD} {s:List YS} {n:Nat} (h:SOk l s) (hf:FOk l n):ZDr s:=by
 refine ⟨by have:=h.len;omega,fun x hx=>?_⟩
 rcases (h.all x hx).2.2 with e | ⟨e,he,hne⟩
 ·rw [e];simp [ZS]
 ·have:=(J8 (hf.all e he).ok).2.2.1
  rw [hne];omega
theorem s80 (l:List ZD) (n:Nat) (hn:n≤60) (hf:FOk l n) (c:Int):Ret (fun r=>∃ s,SOk l s∧r=s.map Zh) (g80 (l.map Zf) c):=by
 have hl:=hf.len
 rw [Zxl]
 refine Zk (by decide) (Zk (by decide) (Zk (by decide) ?_))
 refine Km (F:=fun k (s:LL) z=>Zga k (l.map Zf) c s z) (n:=l.length) (fun i s=>∃ s',SOk l s'∧s=s'.map Zh) (by omega) (fun k i s hi hj ih=>?_) (fun k s hj=>?_) _ ⟨List.replicate 12 ⟨ZS,0,zid⟩,⟨rfl,fun t ht=>?_⟩,rfl⟩
 ·obtain ⟨s,hs,rfl⟩:=hj
  show Ret _ (Zga (k+1) _ _ _ _)
  rw [ZkM,List.length_map,if_pos (Z6 hi)]
  refine Ze (Zo hi _) ?_
  simp only [Yl,d2,d4,d8,d16]
  have nxt:Ret (fun r=>∃ s,SOk l s∧r=s.map Zh) (Zga k (l.map Zf) c (s.map Zh) (iop .add .i64 (i:Int) 1)):=by rw [Z1 hi (by omega)];exact ih _ ⟨s,hs,rfl⟩
  refine Zl (fun _=>?_) fun _=>nxt
  refine Ze (Zo hi _) ?_
  simp only [Yl,d2,d4,d8,d16]
  refine Zl (fun h1=>?_) fun _=>nxt
  simp only [CQ] at h1
  refine Ze (Zo hi _) ?_
  simp only [Yl,d2,d4,d8,d16]
  refine Ze (Zo hi _) ?_
  simp only [Yl,d2,d4,d8,d16]
  have he:=hf.all _ (List.getElem_mem hi)
  have hp:=(J8 he.ok).2.2.1
  rw [s25 l[i].node (by omega),Option.bind_some]
  have h0:=he.s0
  have hsl:=hs.len
  refine Zk (by omega) (Zk (by rw [List.length_map];omega) (Zk (by omega) (Zk (by rw [List.length_map];omega) ?_)))
  rw [Z1 hi (by omega)]
  refine ih _ ⟨s.modify l[i].slot.toNat (ZzG l[i].node),⟨by rw [List.length_modify];exact hsl,fun t ht=>?_⟩,Zo8 s _ l[i].node⟩
  rw [List.length_modify] at ht
  rw [List.getElem_modify]
  have ha:=hs.spot t ht
  split
  ·exact ⟨ha.1,ha.2.1,.inr ⟨l[i],List.getElem_mem hi,by omega,rfl⟩⟩
  ·exact ha
 ·obtain ⟨s,hs,rfl⟩:=hj
  show Ret _ (Zga (k+1) _ _ _ _)
  rw [ZkM,List.length_map,if_neg (Z5 (Nat.le_refl _))]
  exact Zg ⟨s,hs,rfl⟩
 ·rw [List.getElem_replicate]
  exact ⟨rfl,rfl,.inl rfl⟩
end Go.Proofs.YtjldbnbdcmfbmaaGreat
end

section
namespace Go.Proofs.YtjldbnbdcmfbmaaGreat
open Go Go.AM
set_option linter.unusedSimpArgs false
set_option linter.unusedVariables false
set_option maxRecDepth 100000
theorem Zgq {α:Type} (lt:α→α→Bool) (l:List α):VM lt l=true↔∀ j (h:j+1 < l.length),lt l[j] l[j+1]=true:=by
 rw [VM,List.all_eq_true]
 constructor
 ·intro h j hj
  have:=h (j+1) (by rw [List.mem_range'_1];omega)
  rw [WY lt hj] at this
  exact this
 ·intro h i hi
  rw [List.mem_range'_1] at hi
  match i with
  | 0 => rfl
  | j + 1 => rw [WY lt (by omega)]; exact h j (by omega)
theorem ZkV {α:Type} {lt:α→α→Bool} {l:List α} {a:α} (h:VM lt l=true) (ha:∀ h:0 < l.length,lt (l[l.length-1]'(by omega)) a=true):VM lt (l++[a])=true:=by
 rw [Zgq] at h ⊢
 intro j hj
 rw [List.length_append,List.length_cons,List.length_nil] at hj
 by_cases hjl:j+1 < l.length
 ·rw [List.getElem_append_left (by omega),List.getElem_append_left hjl]
  exact h j hjl
 ·have e:j=l.length-1:=by omega
  subst e
  rw [List.getElem_append_left (by omega),List.getElem_append_right (by omega)]
  have:=ha (by omega)
  simpa using this
theorem Zps {α:Type} {lt:α→α→Bool} {l:List α} (h:l.Pairwise fun a b=>lt a b=true):VM lt l=true:=by
 rw [Zgq]
 intro j hj
 exact List.pairwise_iff_getElem.1 h j (j+1) (by omega) hj (by omega)
theorem Kk {α:Type} (f:α→List AV) (l:List α) (a:α):l.map f++(E0++[f a])=(l++[a]).map f:=by simp
theorem Yp {α:Type} {P:α→Prop} {l:List α} {a:α} (h:∀ x∈l,P x) (ha:P a):∀ x∈l++[a],P x:=by
 intro x hx
 simp only [List.mem_append,List.mem_singleton] at hx
 rcases hx with hx | rfl
 ·exact h x hx
 ·exact ha
theorem Yj {σ γ:Type} {P:γ→Prop} {F:Nat→σ→Int→Option γ} (n:Nat) (J:Nat→σ→Prop) (hn:n < 1000)
  (step:∀ (k i:Nat) (s:σ),i≤n→J i s→(i < n→∀ s',J (i+1) s'→Ret P (F k s' ((i+1:Nat):Int)))→Ret P (F (k+1) s (i:Int))) (s:σ) (h:J 0 s):Ret P (F ZB s 0):=by
 refine Km (F:=F) (n:=n) J (by omega) (fun k i s hi hj ih=>step k i s (by omega) hj fun _=>ih) (fun k s hj=>step k n s (Nat.le_refl _) hj fun h=>absurd h (Nat.lt_irrefl _)) s h
theorem Zd4 {i n:Nat} (h:i≤n) (hn:n < 1000):iop .add .i64 (i:Int) 1=((i+1:Nat):Int):=by
 rw [JH (by omega) (by omega)];omega
def Rng (z:Int):Prop:=-(2^63:Int)≤z∧z < 2^63
def Yt (c:Call):List Int:=[c.kind,c.slot,c.dest,c.core,c.mask,c.object,c.bits,c.level,c.offset,c.count,c.index,c.addr]
def RL (l:List Int):Prop:=∀ x∈l,Rng x
def Zel (s:Jv):Prop:=∀ q∈s.pending,∀ z∈Yt q.call,Rng z
theorem ZdX {z:Int} (h1:0≤z) (h2:z < 1000000):Rng z:=⟨by omega,by omega⟩
theorem ZmE (l:List Int) (z:Int):Ret (fun v=>RL l→Rng v) (g21 (Za l) z):=by
 rw [ZqX]
 refine Zl (fun _=>Zg fun _=>⟨by decide,by decide⟩) fun h1=>Zl (fun _=>Zg fun _=>⟨by decide,by decide⟩) fun h2=>?_
 simp only [CQ,Z4] at h1 h2
 have e:z=((z.toNat:Nat):Int):=by omega
 have hl:z.toNat < l.length:=by omega
 have:=Z3 (γ:=Int) hl (fun r=>some r)
 rw [← e] at this
 exact Ze this (Zg fun h=>h _ (List.getElem_mem hl))
structure ZB9 (i:Id):Prop where
 c0:0≤i.core
 c1:i.core < 4
 o0:1≤i.op
 o1:i.op≤20
 p:i.part=0
theorem ZB9.ok {i:Id} (h:ZB9 i):ZdQ i=true:=by
 obtain ⟨h1,h2,h3,h4,h5⟩:=h
 simp only [ZdQ,VA,Bool.and_eq_true,decide_eq_true_eq]
 omega
theorem s22 (x:Int):Ret (fun r=>∃ i:Id,r=(i.core,i.op,i.part)∧ZB9 i) (g22 x):=by
 rw [ZwH]
 refine Zc (place x 4 (by omega) (by omega)) fun a ha=>Zk (by omega) (Zc (place _ 20 (by omega) (by omega)) fun b hb=>?_)
 have e:iop .add .i64 1 b=1+b:=JH (by omega) (by omega)
 rw [e]
 exact Zg ⟨⟨a,1+b,0⟩,rfl,⟨ha.1,ha.2,by show 1≤1+b;omega,by show 1+b≤20;omega,rfl⟩⟩
theorem s24 (l:List Int) (z:Int) (hz:0≤z):Ret (fun r=>∃ m:List Int,r=Za m∧m.length≤l.length∧(RL l→RL m)) (g24 (Za l) z):=by
 rw [Zxe,Z4]
 refine Zl (fun _=>Zg ⟨[],rfl,by simp,fun _ x hx=>by cases hx⟩) fun h=>?_
 simp only [CQ] at h
 refine Zk hz (Zk (by omega) (Zg ⟨l.drop z.toNat,?_,by simp,fun h x hx=>h x (List.mem_of_mem_drop hx)⟩))
 exact (List.map_drop ..).symm
theorem Zl8 {γ:Type} {P:γ→Prop} {a b z:Int} {k:Int→Option γ} (h0:0≤z) (h:z < 2) (hk:∀ x,x=a∨x=b→Ret P (k x)):Ret P (Zm ((E0++[[I a]])++[[I b]]) z [.int .i64] k):=
 ZbS (l:=[a,b]) h0 (by simp;omega) (hk _ (by rcases (by omega:z=0∨z=1) with rfl | rfl<;>simp))
theorem ZoP:K3 ZS ZS=true:=by kernel_rfl
theorem s23 (l:List Int) (n:J4) (hn:ZR n=true) (hp:n.path.length≤20):Ret (fun r=>∃ q:Req,r=ZuI q∧(q.src.path.length≤20∧q.call.dest < 8)∧K8 q=true∧(RL l→∀ z∈Yt q.call,Rng z)) (g23 (Za l) n.id.core n.id.op n.id.part (Zb n.path) n.cap.kind n.cap.base n.cap.bits n.cap.rights n.cap.width n.cap.level n.cap.device):=by
 rw [ZvJ]
 refine Zc (Zp l 0) fun _ _=>Zc (s22 _) fun r ⟨i,hi,hio⟩=>?_
 subst hi
 refine Zc (Zp l 1) fun _ _=>Zc (place _ 3 (by omega) (by omega)) fun rg hrg=>?_
 refine Zc (Zp l 2) fun _ _=>Zc (place _ 2 (by omega) (by omega)) fun _ h2=>?_
 refine Zl8 h2.1 h2.2 fun w hw=>?_
 rw [s25 n (by omega),Option.bind_some]
 refine Zc (Zp l 3) fun _ _=>Zc (place _ 6 (by omega) (by omega)) fun kd hkd=>?_
 refine Zc (Zp l 4) fun _ _=>Zc (place _ 8 (by omega) (by omega)) fun v4 h4=>?_
 refine Zc (Zp l 5) fun _ _=>Zc (place _ 8 (by omega) (by omega)) fun v5 hde=>?_
 refine Zc (Zp l 6) fun _ _=>Zc (place _ 4 (by omega) (by omega)) fun v6 h6=>?_
 refine Zc (Zp l 7) fun _ _=>Zc (place _ 8 (by omega) (by omega)) fun v7 h7=>?_
 refine Zc (Zp l 8) fun _ _=>Zc (place _ 6 (by omega) (by omega)) fun v8 h8=>?_
 refine Zc (Zp l 9) fun _ _=>Zc (place _ 3 (by omega) (by omega)) fun v9 h9=>?_
 refine Zc (Zp l 10) fun _ _=>Zc (place _ 2 (by omega) (by omega)) fun v10 h10=>?_
 refine Zc (Zp l 11) fun _ _=>Zc (place _ 8 (by omega) (by omega)) fun v11 h11=>Zk (by omega) ?_
 refine Zc (Zp l 12) fun _ _=>Zc (place _ 3 (by omega) (by omega)) fun v12 h12=>?_
 refine Zc (ZmE l 13) fun v13 h13=>Zc (ZmE l 14) fun v14 h14=>?_
 have e8:iop .add .i64 1 v8=1+v8:=JH (by omega) (by omega)
 have e9:iop .add .i64 12 v9=12+v9:=JH (by omega) (by omega)
 have e12:iop .add .i64 1 v12=1+v12:=JH (by omega) (by omega)
 have e11:iop .shl .i64 v11 12=v11*4096:=Zsc (by omega) (by omega) (by omega) (by show v11*2^12 < 2^63;omega)
 rw [e8,e9,e11,e12]
 have hcall:RL l→∀ z∈Yt ⟨1+kd,v4,v5,v6,v7,1+v8,12+v9,v10,v11*4096,1+v12,v13,v14⟩,Rng z:=by
  intro hl z hz
  simp only [Yt,List.mem_cons,List.not_mem_nil,or_false] at hz
  rcases hz with rfl | rfl | rfl | rfl | rfl | rfl | rfl | rfl | rfl | rfl | rfl | rfl
  ·exact ZdX (by omega) (by omega)
  ·exact ZdX (by omega) (by omega)
  ·exact ZdX (by omega) (by omega)
  ·exact ZdX (by omega) (by omega)
  ·exact ZdX (by omega) (by omega)
  ·exact ZdX (by omega) (by omega)
  ·exact ZdX (by omega) (by omega)
  ·exact ZdX (by omega) (by omega)
  ·exact ZdX (by omega) (by omega)
  ·exact ZdX (by omega) (by omega)
  ·exact h13 hl
  ·exact h14 hl
 have ek:iop .add .i64 1 kd=1+kd:=JH (by omega) (by omega)
 rw [ek]
 have hr:Yc rg=true:=by simp only [Yc,decide_eq_true_eq];omega
 refine Zl (fun h1=>Zg ⟨⟨i,⟨_,_,_,_,_,_,_,_,_,_,_,_⟩,_,_,ZS⟩,rfl,⟨by simp [ZS],hde.2⟩,?_,hcall⟩) fun h1=>Zg ⟨⟨i,⟨_,_,_,_,_,_,_,_,_,_,_,_⟩,_,_,n⟩,rfl,⟨hp,hde.2⟩,?_,hcall⟩
 ·simp only [CQ] at h1
  simp only [K8,hio.ok,hr,h1,ZoP,Bool.and_eq_true,decide_eq_true_eq,if_true,true_and,and_true]
  exact ⟨by omega,hw⟩
 ·simp only [CQ] at h1
  simp only [K8,hio.ok,hr,hn,if_neg h1,Bool.and_eq_true,decide_eq_true_eq,true_and,and_true]
  exact ⟨by omega,hw⟩
structure Zma (f:List ZD) (ss:List YS):Prop where
 len:ss.length=12
 spot:∀ t (h:t < ss.length),(0≤ss[t].op∧ss[t].op≤20)∧((ss[t].node=ZS∧ss[t].lock=zid)∨∃ e∈f,e.slot=(t:Int)∧ss[t].node=e.node∧(ss[t].lock=zid∨ZdQ ss[t].lock=true))
theorem SOk.slIn {f:List ZD} {s:List YS} (h:SOk f s):Zma f s:=⟨h.len,fun t ht=>by
 obtain ⟨h1,h2,h3⟩:=h.spot t ht
 refine ⟨by omega,?_⟩
 rcases h3 with h3 | ⟨e,he,hs,hn⟩
 ·exact .inl ⟨h3,h2⟩
 ·exact .inr ⟨e,he,hs,hn,.inl h2⟩⟩
theorem Zwb {f:List ZD} {n:Nat} (hf:FOk f n) {a b:ZD} (ha:a∈f) (hb:b∈f) (h:a.node.id=b.node.id):a=b:=by
 obtain ⟨i,hi,rfl⟩:=List.getElem_of_mem ha
 obtain ⟨j,hj,rfl⟩:=List.getElem_of_mem hb
 have hp:=List.pairwise_iff_getElem.1 hf.asc
 by_cases hij:i < j
 ·have:=hp i j hi hj hij
  rw [Zis,h] at this;omega
 ·by_cases hji:j < i
  ·have:=hp j i hj hi hji
   rw [Zis,h] at this;omega
  ·have:i=j:=by omega
   subst this;rfl
theorem ZjQ {f:List ZD} {n:Nat} (hf:FOk f n) {e:ZD} (he:e∈f):e.node.id≠zid:=by
 intro h
 have:=(hf.all e he).o1
 rw [h] at this
 exact absurd this (by decide)
theorem Zqy {f:List ZD} {n:Nat} {ss:List YS} (hf:FOk f n) (h:Zma f ss):VY ss=true:=by
 have hl:=h.len
 rw [VY,Bool.and_eq_true,decide_eq_true_eq,List.all_eq_true]
 refine ⟨by omega,fun i hi=>?_⟩
 rw [List.mem_range'_1] at hi
 have hil:i < ss.length:=by omega
 obtain ⟨ho,hn⟩:=h.spot i hil
 rw [Bool.and_eq_true,Yg _ hil]
 refine ⟨?_,?_⟩
 ·rw [Zcr,Bool.and_eq_true,decide_eq_true_eq]
  refine ⟨by omega,?_⟩
  rcases hn with ⟨e1,e2⟩ | ⟨e,he,_,e1,e2⟩
  ·rw [e1,e2,if_pos (show ZS.id=zid from rfl),ZoP];rfl
  ·rw [e1,if_neg (ZjQ hf he),(hf.all e he).ok,Bool.true_and,Bool.or_eq_true,decide_eq_true_eq]
   exact e2
 ·unfold ZeU
  rw [List.getElem?_eq_getElem hil]
  show (!((ss.take i).any (ZoY ss[i].node.id)))=true
  rw [Bool.not_eq_true',List.any_eq_false]
  intro x hx
  obtain ⟨j,hj,rfl⟩:=List.getElem_of_mem hx
  rw [List.length_take] at hj
  rw [List.getElem_take]
  have hji:j < i:=by omega
  obtain ⟨_,hm⟩:=h.spot j (by omega)
  rw [ZoY,Bool.not_eq_true,Bool.and_eq_false_iff]
  rcases hm with ⟨e1,_⟩ | ⟨e,he,hs,e1,_⟩
  ·left;rw [e1];rfl
  ·right
   rw [decide_eq_false_iff_not,e1]
   intro heq
   rcases hn with ⟨e3,_⟩ | ⟨e',he',hs',e3,_⟩
   ·rw [e3] at heq;exact ZjQ hf he heq
   ·rw [e3] at heq
    have:=Zwb hf he he' heq
    subst this
    omega
structure StG (f:List ZD) (s:Jv):Prop where
 slots:Zma f s.slots
 ok:YC s=true
 pend:s.pending.length≤3
 psrc:∀ q∈s.pending,q.src.path.length≤20∧q.call.dest < 8
 pok:∀ q∈s.pending,K8 q=true
 marks:s.marks.length≤3
 answers:s.answers.length≤3
 entries:s.entries.length≤3
 epath:∀ e∈s.entries,e.node.path.length≤20
 commits:s.commits.length≤3
abbrev StT:=LL×LL×LL×LL×LL×LL
def stV (s:Jv):StT:=(s.slots.map Zh,s.pending.map Zt,s.marks.map Zi,s.answers.map Zy,s.entries.map Zf,Zb s.commits)
def StR (f:List ZD) (l:List Int) (r:StT):Prop:=∃ s:Jv,r=stV s∧StG f s∧(RL l→Zel s)
def ZCZ (z:List Int) (l:List Req):Prop:=(RL z→∀ q∈l,∀ x∈Yt q.call,Rng x)∧l.length≤3∧(∀ q∈l,q.src.path.length≤20∧q.call.dest < 8)∧(∀ q∈l,K8 q=true)∧VM ltp l=true
def ZAQ (l:List ZbD):Prop:=l.length≤3∧(∀ q∈l,K9 q=true)∧VM ltm l=true
def Zzo (l:List Ans):Prop:=l.length≤3∧(∀ q∈l,Zbz q=true)∧VM lta l=true
def Zyl (l:List ZD):Prop:=l.length≤3∧(∀ e∈l,e.node.path.length≤20)∧(∀ q∈l,ZaQ q=true)∧VM lte l=true
def Zwc (l:List Id):Prop:=l.length≤3∧∀ q∈l,ZdQ q=true
theorem ZpK {l:List Int} {f:List ZD} {n:Nat} (hf:FOk f n) {ss:List YS} (hs:Zma f ss) {pe:List Req} (hp:ZCZ l pe) {ma:List ZbD} (hm:ZAQ ma) {an:List Ans} (ha:Zzo an) {en:List ZD} (he:Zyl en) {co:List Id} (hc:Zwc co) :
  StR f l (ss.map Zh,pe.map Zt,ma.map Zi,an.map Zy,en.map Zf,Zb co):=by
 refine ⟨⟨ss,pe,ma,an,en,co⟩,rfl,⟨hs,?_,hp.2.1,hp.2.2.1,hp.2.2.2.1,hm.1,ha.1,he.1,he.2.1,hc.1⟩,hp.1⟩
 simp only [YC,Zqy hf hs,List.all_eq_true.2 hp.2.2.2.1,hp.2.2.2.2,List.all_eq_true.2 hm.2.1,hm.2.2,List.all_eq_true.2 ha.2.1,ha.2.2,List.all_eq_true.2 he.2.2.1,he.2.2.2,List.all_eq_true.2 hc.2,Bool.and_self]
theorem Zvw {e:ZD} (h:EOk e):ZaQ e=true:=by
 obtain ⟨h1,h2,h3,h4,_,_,_,_,_,h5⟩:=h
 simp only [ZaQ,Jh,ZbU,h5,Bool.and_eq_true,decide_eq_true_eq,and_true]
 omega
theorem ZzZ (l:List Int) (f:List ZD) (n:Nat) (hf:FOk f n) (hn:n≤60) (y2 y3 y4 y5 y6 y7 sl pe ma an:LL) (h:∀ en co,Zyl en→Zwc co→StR f l (sl,pe,ma,an,en.map Zf,Zb co)) :
  Ret (StR f l) (Zl7 ZB (Za l) (f.map Zf) y2 y3 y4 y5 y6 y7 sl pe ma an E0 E0 0):=by
 have hfl:=hf.len
 refine Yj (F:=fun k (s:LL×LL) z=>Zl7 k (Za l) (f.map Zf) y2 y3 y4 y5 y6 y7 sl pe ma an s.1 s.2 z) 3
  (fun i s=>∃ cs,s=(List.map Zf (f.take i),Zb cs)∧i≤f.length∧cs.length≤i∧∀ c∈cs,ZdQ c=true) (by omega) (fun k i s hi hj ih=>?_) (E0,E0) ⟨[],by simp [Zb],by omega,by simp,by simp⟩
 obtain ⟨cs,rfl,h1,h2,h3⟩:=hj
 have out:Ret (StR f l) (some (sl,pe,ma,an,List.map Zf (f.take i),Zb cs)):=Zg (h _ _ ⟨by simp;omega,fun e he=>by have:=(J8 (hf.all e (List.mem_of_mem_take he)).ok).2.2.1;omega,fun e he=>Zvw (hf.all e (List.mem_of_mem_take he)),Zps hf.asc.take⟩ ⟨by omega,h3⟩)
 show Ret _ (Zl7 (k+1) _ _ _ _ _ _ _ _ _ _ _ _ _ _ _)
 rw [ZqL]
 refine Zc (Zp l _) fun _ _=>Zc (place _ 3 (by omega) (by omega)) fun r16 h16=>?_
 refine Zl (fun h4=>?_) fun _=>out
 refine Zl (fun h5=>?_) fun _=>out
 simp only [CQ,List.length_map] at h4 h5
 have hif:i < f.length:=by omega
 refine Zk (ZA (by simp;omega) (by omega)) ?_
 refine Ze (Zo hif _) ?_
 simp only [Yl,d2,d4,d8,d16]
 refine Zk (ZA (by simp;omega) (by omega)) (Zk (ZA (by rw [ZU];simp;omega) (by omega)) ?_)
 refine Zc (Zp l _) fun _ _=>Zc (s22 _) fun r ⟨c,hc,hco⟩=>?_
 subst hc
 refine Zk (ZA (by rw [ZU];simp;omega) (by omega)) ?_
 rw [Zd4 hi (by omega)]
 refine ih (by omega) (List.map Zf (f.take i)++(E0++[Zf f[i]]),Zb cs++(E0++[idc c])) ⟨cs++[c],?_,by omega,by simp;omega,Yp h3 hco.ok⟩
 have e1:f.take (i+1)=f.take i++[f[i]]:=by rw [List.take_add_one,List.getElem?_eq_getElem hif];rfl
 rw [e1,Kk]
 simp [Zb]
theorem ZBw (l:List Int) (f:List ZD) (n:Nat) (hf:FOk f n) (hn:n≤60) (y2 y3 y4 y5 y6 y7 sl pe ma:LL) (h:∀ an en co,Zzo an→Zyl en→Zwc co→StR f l (sl,pe,ma,an.map Zy,en.map Zf,Zb co)) :
  Ret (StR f l) (ZlZ ZB (Za l) (f.map Zf) y2 y3 y4 y5 y6 y7 sl pe ma E0 E0 E0 0):=by
 refine Yj (F:=fun k (s:LL) z=>ZlZ k (Za l) (f.map Zf) y2 y3 y4 y5 y6 y7 sl pe ma s E0 E0 z) 3
  (fun i s=>∃ es:List Ans,s=List.map Zy es∧es.length=i∧(∀ j (h:j < es.length),es[j].op=((j+1:Nat):Int))∧∀ x∈es,Zbz x=true) (by omega) (fun k i s hi hj ih=>?_) _ ⟨[],rfl,by simp,by simp,by simp⟩
 obtain ⟨es,rfl,h1,h2,h3⟩:=hj
 show Ret _ (ZlZ (k+1) _ _ _ _ _ _ _ _ _ _ _ _ _ _ _)
 rw [Zo2]
 refine Zc (Zp l _) fun _ _=>Zc (place _ 3 (by omega) (by omega)) fun r16 h16=>?_
 refine Zl (fun h4=>?_) fun _=>ZzZ l f n hf hn _ _ _ _ _ _ _ _ _ _ fun en co he hc=>h es en co ⟨by omega,h3,(Zgq ..).2 fun j hj=>by rw [lta,h2,h2,decide_eq_true_eq];omega⟩ he hc
 simp only [CQ] at h4
 refine Zk (ZA (by simp;omega) (by omega)) ?_
 refine Zc (Zp l _) fun _ _=>Zc (place _ 20 (by omega) (by omega)) fun v hv=>?_
 refine Zk (ZA (by simp;omega) (by omega)) ?_
 rw [Zd4 hi (by omega)]
 refine ih (by omega) _ ⟨es++[⟨((i+1:Nat):Int),v⟩],by rw [← Kk];rfl,by simp;omega,fun j hj=>?_,Yp h3 (by simp only [Zbz,Zd1,Bool.and_eq_true,decide_eq_true_eq];omega)⟩
 by_cases hjl:j < es.length
 ·rw [List.getElem_append_left hjl];exact h2 j hjl
 ·rw [List.getElem_append_right (by omega)]
  rw [List.length_append,List.length_cons,List.length_nil] at hj
  have:j=i:=by omega
  subst this
  simp
theorem ZBM (l:List Int) (f:List ZD) (n:Nat) (hf:FOk f n) (hn:n≤60) (y2 y3 y4 y5 y6 y7 sl pe:LL) (h:∀ ma an en co,ZAQ ma→Zzo an→Zyl en→Zwc co→StR f l (sl,pe,ma.map Zi,an.map Zy,en.map Zf,Zb co)) :
  Ret (StR f l) (Zjm ZB (Za l) (f.map Zf) y2 y3 y4 y5 y6 y7 sl pe E0 E0 E0 E0 0):=by
 refine Yj (F:=fun k (s:LL) z=>Zjm k (Za l) (f.map Zf) y2 y3 y4 y5 y6 y7 sl pe s E0 E0 E0 z) 3
  (fun i s=>∃ es:List ZbD,s=List.map Zi es∧es.length=i∧(∀ j (h:j < es.length),es[j].region=(j:Int))∧∀ x∈es,K9 x=true) (by omega) (fun k i s hi hj ih=>?_) _ ⟨[],rfl,by simp,by simp,by simp⟩
 obtain ⟨es,rfl,h1,h2,h3⟩:=hj
 show Ret _ (Zjm (k+1) _ _ _ _ _ _ _ _ _ _ _ _ _ _ _)
 rw [Zqg]
 refine Zc (Zp l _) fun _ _=>Zc (place _ 3 (by omega) (by omega)) fun r16 h16=>?_
 refine Zl (fun h4=>?_) fun _=>ZBw l f n hf hn _ _ _ _ _ _ _ _ _ fun an en co ha he hc=>h es an en co ⟨by omega,h3,(Zgq ..).2 fun j hj=>by rw [ltm,h2,h2,decide_eq_true_eq];omega⟩ ha he hc
 simp only [CQ] at h4
 refine Zk (ZA (by simp;omega) (by omega)) ?_
 refine Zc (Zp l _) fun _ _=>Zc (s22 _) fun r ⟨c,hc,hco⟩=>?_
 subst hc
 refine Zk (ZA (by simp;omega) (by omega)) ?_
 rw [Zd4 hi (by omega)]
 refine ih (by omega) _ ⟨es++[⟨(i:Int),c⟩],by rw [← Kk];rfl,by simp;omega,fun j hj=>?_,Yp h3 (by simp only [K9,Yc,hco.ok,Bool.and_eq_true,decide_eq_true_eq,and_true];omega)⟩
 by_cases hjl:j < es.length
 ·rw [List.getElem_append_left hjl];exact h2 j hjl
 ·rw [List.getElem_append_right (by omega)]
  rw [List.length_append,List.length_cons,List.length_nil] at hj
  have:j=i:=by omega
  subst this
  simp
theorem ZzI (l:List Int) (f:List ZD) (n:Nat) (hf:FOk f n) (hn:n≤60) (y2 y3 y4 y5 y6 y7 sl:LL) (h:∀ pe ma an en co,ZCZ l pe→ZAQ ma→Zzo an→Zyl en→Zwc co→StR f l (sl,pe.map Zt,ma.map Zi,an.map Zy,en.map Zf,Zb co)) :
  Ret (StR f l) (ZfD ZB (Za l) (f.map Zf) y2 y3 y4 y5 y6 y7 sl E0 E0 E0 E0 E0 0):=by
 have hfl:=hf.len
 refine Yj (F:=fun k (s:LL) z=>ZfD k (Za l) (f.map Zf) y2 y3 y4 y5 y6 y7 sl s E0 E0 E0 E0 z) 3
  (fun i s=>∃ es,s=List.map Zt es∧es.length≤i∧(∀ q∈es,q.src.path.length≤20∧q.call.dest < 8)∧(∀ q∈es,K8 q=true)∧VM ltp es=true∧(RL l→∀ q∈es,∀ x∈Yt q.call,Rng x)) (by omega) (fun k i s hi hj ih=>?_) _ ⟨[],rfl,by simp,by simp,by simp,rfl,by simp⟩
 obtain ⟨es,rfl,h1,h3,h7,h8,h9⟩:=hj
 have out:=ZBM l f n hf hn y2 y3 y4 y5 y6 y7 sl (List.map Zt es) fun ma an en co hm ha he hc=>h es ma an en co ⟨h9,by omega,h3,h7,h8⟩ hm ha he hc
 show Ret _ (ZfD (k+1) _ _ _ _ _ _ _ _ _ _ _ _ _ _ _)
 rw [ZpI]
 refine Zc (Zp l _) fun _ _=>Zc (place _ 3 (by omega) (by omega)) fun r16 h16=>?_
 refine Zl (fun h4=>?_) fun _=>out
 refine Zl (fun h5=>?_) fun _=>out
 simp only [CQ,List.length_map] at h4 h5
 have e13:iop .add .i64 13 (i:Int)=13+i:=JH (by omega) (by omega)
 rw [e13]
 refine Zc (s24 l _ (by omega)) fun r ⟨m,hr,_,hsub⟩=>?_
 subst hr
 rw [List.length_map]
 refine Zc (Zp l _) fun _ _=>Zc (place _ _ (by omega) (by omega)) fun r19 h19=>?_
 have hil:r19.toNat < f.length:=by omega
 refine KR h19.1 hil ?_
 simp only [Yl,d2,d4,d8,d16]
 have hno:=(hf.all _ (List.getElem_mem hil)).ok
 have hp:=(J8 hno).2.2.1
 refine Zc (s23 m f[r19.toNat].node hno (by omega)) fun r ⟨q,hq,hqp,hqo,hqc⟩=>?_
 subst hq
 rw [Zd4 hi (by omega)]
 have room1:Je E0 (List.map Zt es) 240:=ZA (by simp;omega) (by omega)
 have room2:Je (List.map Zt es) (E0++[Zt q]) 240:=ZA (by simp;omega) (by omega)
 have nxt:i < 3→(∀ h:0 < es.length,ltp (es[es.length-1]'(by omega)) q=true)→Ret (StR f l) (ZfD k (Za l) (f.map Zf) y2 y3 y4 y5 y6 y7 sl (List.map Zt es++(E0++[Zt q])) E0 E0 E0 E0 ((i+1:Nat):Int)):=fun hi3 hlt=>ih hi3 _ ⟨es++[q],(Kk ..),by simp;omega,Yp h3 hqp,Yp h7 hqo,ZkV h8 hlt,fun hl=>Yp (h9 hl) (hqc (hsub hl))⟩
 refine Zl (fun h6=>Zk room1 (Zk room2 (nxt (by omega) fun h=>?_))) fun h6=>?_
 ·simp only [CQ,List.length_map] at h6
  omega
 simp only [CQ,List.length_map] at h6
 have e1:iop .sub .i64 (List.length (List.map Zt es):Int) 1=((es.length-1:Nat):Int):=by rw [List.length_map,Zd3 (by omega) (by omega)];omega
 rw [e1]
 refine Ze (Ym (show es.length-1 < es.length by omega) _) ?_
 refine Ze (congrArg (fun o=>Option.bind o _) (s82 _ _ _ _ _ _)) ?_
 refine Zl (fun hlt=>Zk room1 (Zk room2 (nxt (by omega) fun _=>hlt))) fun _=>ih (by omega) _ ⟨es,rfl,by omega,h3,h7,h8,h9⟩
def Zo9 (b:Id) (s:YS):YS:={ s with lock:=b }
theorem ZwC (acc:List YS) (i:Nat) (b:Id):Ja (acc.map Zh) i 12 [I b.core,I b.op,I b.part]=(acc.modify i (Zo9 b)).map Zh:=ZdB Zh (Zo9 b) acc i 12 _ fun _ _=>rfl
theorem Zma.lockS {f:List ZD} {ss:List YS} (h:Zma f ss) (i:Nat) (hi:i < ss.length) (b:Id) (hb:ZdQ b=true) (he:Ze1 ss[i]=false):Zma f (ss.modify i (Zo9 b)):=by
 refine ⟨by rw [List.length_modify];exact h.len,fun t ht=>?_⟩
 rw [List.length_modify] at ht
 rw [List.getElem_modify]
 obtain ⟨ho,hn⟩:=h.spot t ht
 split
 ·rename_i heq
  subst heq
  refine ⟨ho,?_⟩
  rcases hn with ⟨e1,_⟩ | ⟨e,he',hs,e1,_⟩
  ·rw [Ze1,e1] at he
   exact absurd he (by decide)
  ·exact .inr ⟨e,he',hs,e1,.inr hb⟩
 ·exact ⟨ho,hn⟩
theorem Zma.opS {f:List ZD} {ss:List YS} (h:Zma f ss) (i:Nat) (g:YS→YS) (hg:∀ x,(g x).node=x.node∧(g x).lock=x.lock∧0≤(g x).op∧(g x).op≤20):Zma f (ss.modify i g):=by
 refine ⟨by rw [List.length_modify];exact h.len,fun t ht=>?_⟩
 rw [List.length_modify] at ht
 rw [List.getElem_modify]
 obtain ⟨ho,hn⟩:=h.spot t ht
 split
 ·rw [(hg _).1,(hg _).2.1]
  exact ⟨(hg _).2.2,hn⟩
 ·exact ⟨ho,hn⟩
theorem ZCi (l:List Int) (f:List ZD) (n:Nat) (hf:FOk f n) (hn:n≤60) (y2 y3 y4 y5 y6 y7:LL) (ss:List YS) (hss:Zma f ss) :
  Ret (StR f l) (ZbA ZB (Za l) (f.map Zf) y2 y3 y4 y5 y6 y7 (ss.map Zh) E0 E0 E0 E0 E0 0):=by
 refine Yj (F:=fun k (s:LL) z=>ZbA k (Za l) (f.map Zf) y2 y3 y4 y5 y6 y7 s E0 E0 E0 E0 E0 z) 12
  (fun i s=>∃ es,s=List.map Zh es∧Zma f es) (by omega) (fun k i s hi hj ih=>?_) _ ⟨ss,rfl,hss⟩
 obtain ⟨es,rfl,h1⟩:=hj
 have hl:=h1.len
 show Ret _ (ZbA (k+1) _ _ _ _ _ _ _ _ _ _ _ _ _ _ _)
 rw [Zqo,List.length_map]
 refine Zl (fun h4=>?_) fun _=>ZzI l f n hf hn _ _ _ _ _ _ _ fun pe ma an en co hp hm ha he hc=>ZpK hf h1 hp hm ha he hc
 simp only [CQ] at h4
 have hi12:i < 12:=by omega
 have hie:i < es.length:=by omega
 rw [Zd4 hi (by omega)]
 have h0:(0:Int)≤(i:Int):=by omega
 have hlt:(i:Int) < (es.length:Int):=by omega
 -- what becomes of the reservation
 have part2:∀ es':List YS,Zma f es'→Ret (StR f l) ((g21 (Za l) (i:Int)).bind fun (r17:Int)=>(g13 r17 7).bind fun (r18:Int)=>if (cop .eql r18 6)=true then (g21 (Za l) (i:Int)).bind fun (r19:Int)=>Zz ((7:Int)≠0)<|(g13 (iop .quo .i64 r19 7) 20).bind fun (r20:Int)=>Zz ((0:Int)≤(i:Int))<|Zz ((i:Int) < (List.length (es'.map Zh):Int))<|Zz ((0:Int)≤(i:Int))<|Zz ((i:Int) < (List.length (es'.map Zh):Int))<|
   ZbA k (Za l) (f.map Zf) y2 y3 y4 y5 y6 y7 (Ja (es'.map Zh) (Int.toNat (i:Int)) 11 [AV.val (.int .i64 (iop .add .i64 1 r20))]) E0 E0 E0 E0 E0 ((i+1:Nat):Int)
   else ZbA k (Za l) (f.map Zf) y2 y3 y4 y5 y6 y7 (es'.map Zh) E0 E0 E0 E0 E0 ((i+1:Nat):Int)):=by
  intro es' he'
  have hl':=he'.len
  refine Zc (Zp l _) fun _ _=>Zc (place _ 7 (by omega) (by omega)) fun r18 _=>?_
  refine Zl (fun _=>?_) fun _=>ih hi12 _ ⟨es',rfl,he'⟩
  refine Zc (Zp l _) fun _ _=>Zk (by omega) (Zc (place _ 20 (by omega) (by omega)) fun r20 h20=>?_)
  rw [List.length_map]
  refine Zk h0 (Zk (by omega) (Zk h0 (Zk (by omega) ?_)))
  have e20:iop .add .i64 1 r20=1+r20:=JH (by omega) (by omega)
  rw [Int.toNat_natCast,e20,Zx3]
  exact ih hi12 _ ⟨_,rfl,he'.opS _ _ fun x=>⟨rfl,rfl,by show 0≤1+r20;omega,by show 1+r20≤20;omega⟩⟩
 refine Zc (Zp l _) fun _ _=>Zc (place _ 5 (by omega) (by omega)) fun r16 _=>?_
 refine Zl (fun _=>?_) fun _=>?_
 ·refine Zk h0 (Zk hlt ?_)
  refine Ze (Yd hie _) ?_
  simp only [Zlx,d2,d4,d8,d16]
  rw [s81,Option.bind_some]
  refine Zl (fun hne=>?_) fun _=>?_
  ·rw [Bool.not_eq_true'] at hne
   refine Zc (Zp l _) fun _ _=>Zk (by omega) (Zc (s22 _) fun r ⟨b,hb,hbo⟩=>?_)
   subst hb
   refine Zk h0 (Zk hlt (Zk h0 (Zk hlt ?_)))
   have:=part2 (es.modify i (Zo9 b)) (h1.lockS i hie b hbo.ok hne)
   rw [← ZwC,← Int.toNat_natCast i] at this
   exact this
  ·have:=part2 es h1
   rw [List.length_map] at this
   exact this
 ·have:=part2 es h1
  rw [List.length_map] at this
  exact this
theorem s30 (l:List Int) (f:List ZD) (n:Nat) (hf:FOk f n) (hn:n≤60) (c:Int):Ret (StR f l) (g30 (Za l) (f.map Zf) c):=by
 rw [Zyc]
 refine Zc (s80 f n hn hf c) fun r ⟨s,hs,hr⟩=>?_
 subst hr
 exact ZCi l f n hf hn _ _ _ _ _ _ s hs.slIn
theorem StG.few {f:List ZD} {n:Nat} (hf:FOk f n) {s:Jv} (h:StG f s):ZDr s.slots:=by
 refine ⟨by have:=h.slots.len;omega,fun x hx=>?_⟩
 obtain ⟨t,ht,rfl⟩:=List.getElem_of_mem hx
 rcases (h.slots.spot t ht).2 with ⟨e,_⟩ | ⟨e,he,_,e1,_⟩
 ·rw [e];simp [ZS]
 ·rw [e1]
  have:=(J8 (hf.all e he).ok).2.2.1
  omega
end Go.Proofs.YtjldbnbdcmfbmaaGreat
end
