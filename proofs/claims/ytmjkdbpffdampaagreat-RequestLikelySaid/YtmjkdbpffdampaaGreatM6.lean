/- EndZ, Z11a, Z11b, Z12a, Z12d, Z18a, Z18b, Z18c, Z18d, Z18e, Z18f, Z18g, Z18h, Z18i, Z18j, Z24a, Z24c, Z24d, ZL23a, ZL23b, ZL23c, ZL23d, ZJ11a, ZJ11b, ZL23f, ZL23g, ZL23h, ZL23i, ZL23j, ZG11b, Za, Zb, Zc: texts of the proof, put together. -/
import Derived.Test.YtmjkdbpffdampaaGreatRows
import Derived.Test.YtmjkdbpffdampaaGreatChecked
import Derived.Test.YtmjkdbpffdampaaGreatM4
import Derived.JoinedOf
import Derived.JoinedAt
import Derived.RowKit3
import Derived.KernelRfl
import Derived.Test.YtmjkdbpffdampaaGreatFZf

section
namespace Go.Proofs.YtmjkdbpffdampaaGreat
open Go Go.AM
set_option maxRecDepth 100000
theorem behind : ∃ ws, behindMainWord (wordsSigns Tryz.prog.initOrder.toList) = "cut".toList :: ws := by
 have h:Tryz.prog.initOrder.toList=_:=String.toList_ofList (l:=_)
 rw [h]
 exact Zde (by kernel_rfl) (by kernel_rfl) (by kernel_rfl) (by kernel_rfl) (by kernel_rfl) (by kernel_rfl)
theorem Zl6:Tryz.prog.mayEnter=true:=behind.elim fun _ h=>Go.AM.enters_of h (by kernel_rfl) (by kernel_rfl) (by kernel_rfl)
theorem ZnZ:Tryz.prog.liftsFinal=false:=behind.elim fun _ h=>Go.AM.final_of h
theorem Znc:Tryz.prog.make=some .cut:=behind.elim fun _ h=>Go.AM.make_of h
theorem ZoI:laidOutB Tryz.prog=true:=by kernel_rfl
theorem ZgI:ownKnob Tryz.prog.godebug=none:=by kernel_rfl
theorem JV {d:Nat} {cs:List AV} (h:TyR Tryz.prog (d+1) 3 cs):∃ z,cs = [I z]:=by
 simp only [TyR,Tryz.underlying3] at h
 obtain ⟨z,h,_⟩:=h
 exact ⟨z,h⟩
theorem Zg8 {d:Nat} {cs:List AV} (h:TyR Tryz.prog (d+1) 4 cs):∃ z,cs = [B z]:=by
 simp only [TyR,Tryz.underlying4] at h
 exact h
theorem arg_int {x:AV} (h:VO Tryz.prog 12 3 x):∃ z,x=I z:=by
 simp only [VO,Tryz.underlying3] at h
 obtain ⟨z,hz⟩:=JV h.2
 exact ⟨z,by simpa using hz⟩
def Zlb (z:Int):List AV:=[I z]
def Ze (l:List Int):List (List AV):=l.map Zlb
structure Id where
 core:Int
 op:Int
 part:Int
 deriving DecidableEq
def idc (i:Id):List AV:=[I i.core,I i.op,I i.part]
def Zf (l:List Id):List (List AV):=l.map idc
theorem ZaT {α β:Type} {f:α→β} {p:α→Prop} : ∀ (xs:List β),(∀ x∈xs,∃ a,x=f a∧p a)→∃ l:List α,xs=l.map f∧∀ a∈l,p a
 | [], _ => ⟨[], rfl, by simp⟩
 | x :: xs, h => by
  obtain ⟨a,h1,h2⟩:=h x (by simp)
  obtain ⟨l,h3,h4⟩:=ZaT xs fun y hy=>h y (by simp [hy])
  refine ⟨a::l,by rw [h1,h3];rfl,fun b hb=>?_⟩
  rcases List.mem_cons.1 hb with rfl | hb
  ·exact h2
  ·exact h4 b hb
theorem ZmM:Tryz.prog.cellsOf 3=1:=by kernel_rfl
theorem Zfn {x:AV} (h:VO Tryz.prog 12 22 x):∃ l,x = .slice false 1 (Ze l)∧l.length≤maxLen:=by
 simp only [VO,Tryz.underlying22] at h
 have hh:=h.2
 rw [TyR] at hh
 simp only [Tryz.underlying22,ZmM] at hh
 obtain ⟨xs,h1,h2,h3⟩:=hh
 obtain ⟨l,rfl,h5⟩:=ZaT (f:=Zlb) (p:=fun _=>True) xs fun y hy=>by
  have:=h3 y hy
  rw [TyR] at this
  simp only [Tryz.underlying3] at this
  obtain ⟨z,rfl,hz⟩:=this
  exact ⟨z,rfl,trivial⟩
 exact ⟨l,by simpa [Ze] using h1,by simpa using h2⟩
def ZkM:List TypeId:=[3,4,22,23,25]
theorem ZnE (t:TypeId) (h:ZkM.contains t=true):WF Tryz.prog 12 t=true∧t < Tryz.prog.types.size∧Tryz.prog.readableRec t=true:=by
 have h2:ZkM.all (fun t=>WF Tryz.prog 12 t&&decide (t < Tryz.prog.types.size)&&Tryz.prog.readableRec t)=true:=by kernel_rfl
 rw [List.all_eq_true] at h2
 have:=h2 t (by simpa using h)
 simpa [and_assoc] using this
end Go.Proofs.YtmjkdbpffdampaaGreat
end

section
namespace Go.Proofs.YtmjkdbpffdampaaGreat
open Go Go.AM
set_option linter.unusedSimpArgs false
set_option linter.unusedVariables false
set_option maxRecDepth 100000
def Kg (k b:Int):Bool:=decide ((k=1∧6≤b∧b≤40)∨(k=2∧12≤b∧b≤40)∨(k=3∧b=12)∨(k=4∧b=6)∨(k=5∧b=10)∨(k=6∧b=16))
theorem s83 (k b:Int):g83 k b=some (Kg k b):=by
 rw [Zml]
 repeat' split
 all_goals (refine congrArg some ?_;rw [Z4];simp only [Kg,CQ] at *; omega)
def ZdY (k:Int):Int:=if k=3 then 12 else if k=4 then 6 else if k=5 then 10 else if k=6 then 16 else 0
theorem s89 (k:Int):g89 k=some (ZdY k):=by
 rw [Zm2]
 simp only [CQ,ZdY]
 repeat' split
 all_goals first | rfl | omega
theorem s69 (k b:Int):g69 k b=some (Kg k b):=by
 rw [Zm3]
 simp only [s89,Option.bind_some]
 repeat' split
 all_goals (refine congrArg some ?_;rw [Z4];simp only [Kg,CQ] at *; first | omega | (rcases (by omega:k=3∨k=4∨k=5∨k=6) with rfl | rfl | rfl | rfl<;>simp [ZdY]))
def Wp (w l:Int):Bool:=decide ((w=32∧0≤l∧l≤1)∨(w=39∧0≤l∧l≤2))
theorem s84 (w l:Int):g84 w l=some (Wp w l):=by
 rw [Zl5]
 repeat' split
 all_goals (refine congrArg some ?_;rw [Z4];simp only [Wp,CQ] at *; omega)
theorem s70 (w l:Int):g70 w l=some (Wp w l):=by
 rw [ZmP]
 repeat' split
 all_goals (refine congrArg some ?_;rw [Z4];simp only [Wp,CQ] at *; omega)
def Yf (a b:Int):Bool:=decide (6≤b∧b≤40∧0≤a∧a % 2^b.toNat=0∧a+2^b.toNat≤1099511627776)
theorem ZeN {b:Int} (h:b≤40):(2:Int)^b.toNat≤1099511627776:=by
 have:=ZgW (m:=b.toNat) (n:=40) (by omega)
 have e:(2:Int)^40=1099511627776:=by decide
 omega
theorem ZdU {a:Int} {n:Nat} (h:0≤a):iop .rem .i64 a (2^n)=a % 2^n:=Int.tmod_eq_emod_of_nonneg h
theorem ZmC {b:Int} (h:b≤40):iop .sub .i64 1099511627776 (2^b.toNat)=1099511627776-2^b.toNat:=by
 have:=ZeN h
 have:=JS b.toNat
 exact Wk (by omega) (by omega)
theorem s55 (a b:Int):g55 a b=some (Yf a b):=by
 have hp:=JS b.toNat
 rw [Zlq]
 by_cases h1:6≤b∧b≤40∧0≤a
 ·obtain ⟨h1,h2,h3⟩:=h1
  have hs:iop .shl .i64 1 b=2^b.toNat:=Zk6 (by omega)
  have hr:Zn ((0:Int)≤b)=fun (x:Option Bool)=>x:=funext fun x=>Zp (by omega) x
  have hn:Zn (((2:Int)^b.toNat)≠0)=fun (x:Option Bool)=>x:=funext fun x=>Zp (by omega) x
  simp only [hs,hr,hn,ZdU h3,ZmC h2]
  repeat' split
  all_goals (refine congrArg some ?_;rw [Z4];simp only [Yf,CQ] at *; omega)
 ·have hf:Yf a b=false:=by simp only [Yf,decide_eq_false_iff_not];omega
  rw [hf]
  repeat' split
  all_goals first | rfl | (exfalso;simp only [CQ] at *; omega)
theorem s46 (a b:Int):g46 a b=some (Yf a b):=by
 have hp:=JS b.toNat
 rw [Zmi]
 by_cases h1:6≤b∧b≤40∧0≤a
 ·obtain ⟨h1,h2,h3⟩:=h1
  have hw:IntKind.wrap .u64 b=b:=Y4 (by omega) (by omega)
  have hs:iop .shl .i64 1 b=2^b.toNat:=Zk6 (by omega)
  have hr:Zn ((0:Int)≤b)=fun (x:Option Bool)=>x:=funext fun x=>Zp (by omega) x
  have hn:Zn (((2:Int)^b.toNat)≠0)=fun (x:Option Bool)=>x:=funext fun x=>Zp (by omega) x
  have h40:=ZeN h2
  simp only [hw,hs,hr,hn,ZdU h3]
  repeat' split
  all_goals (refine congrArg some ?_;rw [Z4];simp only [Yf,CQ] at *; first | omega | (rw [Jp (by omega) (by omega)] at *; omega))
 ·have hf:Yf a b=false:=by simp only [Yf,decide_eq_false_iff_not];omega
  rw [hf]
  repeat' split
  all_goals first | rfl | (exfalso;simp only [CQ] at *; omega)
def K6 (a b:Int):Int:=if Yf a b=true then a+2^b.toNat else 0
theorem WJ {a b:Int} (h:Yf a b=true):6≤b∧b≤40∧0≤a∧a % 2^b.toNat=0∧a+2^b.toNat≤1099511627776:=by simpa [Yf] using h
theorem Zh8 {a b:Int} (h:Yf a b=true):iop .add .i64 a (iop .shl .i64 1 b)=K6 a b:=by
 obtain ⟨h1,h2,h3,h4,h5⟩:=WJ h
 have:=JS b.toNat
 rw [Zk6 (by omega),Jp (by omega) (by omega),K6,if_pos h]
def ZmQ (a b c d:Int):Bool:=Yf a b&&Yf c d&&decide (a < K6 c d)&&decide (c < K6 a b)
def inB (a b c d:Int):Bool:=Yf a b&&Yf c d&&decide (a≤c)&&decide (K6 c d≤K6 a b)
structure Cap where
 kind:Int
 base:Int
 bits:Int
 rights:Int
 width:Int
 level:Int
 device:Bool
theorem s34 (k b s r w l:Int) (d:Bool):g34 k b s r w l d=some (b,s):=Zl1 ..
theorem s50 (k b s r w l:Int) (d:Bool):g50 k b s r w l d=some (b,s):=Zm8 ..
def Kn (c:Cap):Bool:=Kg c.kind c.bits&&Yf c.base c.bits&&decide (0≤c.rights∧c.rights≤7)&&(if c.kind=3 then Wp c.width c.level else decide (c.width=0∧c.level=0))&&(!c.device||decide (c.kind=1)||decide (c.kind=2))
theorem s82 (k b s r w l:Int) (d:Bool):g82 k b s r w l d=some (Kn ⟨k,b,s,r,w,l,d⟩):=by
 rw [Znf]
 simp only [s83,s34,s55,s84,Option.bind_some]
 repeat' split
 all_goals (refine congrArg some ?_;rw [Z4];simp only [Kn,CQ] at *; grind)
theorem s68 (k b s r w l:Int) (d:Bool):g68 k b s r w l d=some (Kn ⟨k,b,s,r,w,l,d⟩):=by
 rw [ZmF]
 simp only [s69,s50,s46,s70,Option.bind_some]
 repeat' split
 all_goals (refine congrArg some ?_;rw [Z4];simp only [Kn,CQ] at *; grind)
end Go.Proofs.YtmjkdbpffdampaaGreat
end

section
namespace Go.Proofs.YtmjkdbpffdampaaGreat
open Go Go.AM
set_option linter.unusedSimpArgs false
set_option linter.unusedVariables false
set_option maxRecDepth 100000
def ZgM (obj a sz bits r w l:Int) (d:Bool) (j:Nat):List AV:=[I obj,I (a+j*sz),I bits,I r,I w,I l,B d]
def Jw (obj a sz bits r w l:Int) (d:Bool) (n:Nat):List (List AV):=(List.range n).map (ZgM obj a sz bits r w l d)
theorem VY (obj a sz bits r w l:Int) (d:Bool) (n:Nat):Jw obj a sz bits r w l d (n+1)=Jw obj a sz bits r w l d n++[ZgM obj a sz bits r w l d n]:=by
 simp [Jw,List.range_succ]
theorem Kv (obj a sz bits r w l:Int) (d:Bool) (n:Nat):(Jw obj a sz bits r w l d n).length=n:=by simp [Jw]
theorem V8 {n:Nat} (h:n < 2^64):n < Z2:=by
 have:Z2=1208925819614629174706176:=rfl
 omega
theorem JM {a b:List (List AV)} {k:Nat} (h:(a.length+b.length)*(k+1)≤1099511627776):Z0 a b k:=h
theorem Zjz {k b:Int} (h:Kg k b=true):6≤b∧b≤40:=by
 simp only [Kg,decide_eq_true_eq] at h
 omega
theorem Zkj {c:Cap} (h:Kn c=true):Yf c.base c.bits=true:=by
 simp only [Kn,Bool.and_eq_true] at h
 exact h.1.1.1.2
def YX (c:Cap) (obj bits level width off cnt:Int):Int:=
 if Kn c=false∨c.kind≠1 then 5
 else if iop .and .i64 c.rights 2=0 then 8
 else if Kg obj bits=false∨(obj=3∧Wp width level=false)∨cnt < 1∨8 < cnt∨off < 0 then 1
 else if c.device=true∧obj≠1∧obj≠2 then 5
 else if off % 2^bits.toNat≠0∨2^c.bits.toNat-cnt*2^bits.toNat < off∨(obj=1∧c.bits≤bits) then 6
 else 0
def YK (c:Cap) (obj bits level width off cnt:Int):List (List AV):=
 if YX c obj bits level width off cnt=0 then Jw obj (c.base+off) (2^bits.toNat) bits c.rights (if obj=3 then width else 0) (if obj=3 then level else 0) c.device cnt.toNat else []
theorem V0 {c:Cap} {obj bits level width off cnt e:Int} (he:e≠0) (h:YX c obj bits level width off cnt=e) :
  some (E0,e)=some (YK c obj bits level width off cnt,YX c obj bits level width off cnt):=by
 simp only [YK,h,if_neg he]
theorem Zfe {c:Cap} {obj bits off cnt:Int} (hc:Kn c=true) (hs:Kg obj bits=true) (h1:1≤cnt) (h2:cnt≤8) (h3:0≤off) :
  iop .shl .i64 1 bits=2^bits.toNat∧iop .rem .i64 off (2^bits.toNat)=off % 2^bits.toNat∧iop .shl .i64 1 c.bits=2^c.bits.toNat∧iop .mul .i64 cnt (2^bits.toNat)=cnt*2^bits.toNat∧
   iop .sub .i64 (2^c.bits.toNat) (cnt*2^bits.toNat)=2^c.bits.toNat-cnt*2^bits.toNat∧(2:Int)^bits.toNat≠0∧0≤bits∧0≤c.bits∧0≤c.base∧c.base+2^c.bits.toNat≤1099511627776∧
   0 < (2:Int)^bits.toNat∧(2:Int)^bits.toNat≤1099511627776∧(2:Int)^bits.toNat≤cnt*2^bits.toNat∧0 < (2:Int)^c.bits.toNat∧bits≤40∧c.bits≤40:=by
 obtain ⟨b1,b2⟩:=Zjz hs
 obtain ⟨r1,r2,r3,r4,r5⟩:=WJ (Zkj hc)
 have p1:=JS bits.toNat
 have p2:=JS c.bits.toNat
 have q1:=ZeN b2
 have q2:=ZeN r2
 have m1:cnt*2^bits.toNat≤8*2^bits.toNat:=Int.mul_le_mul_of_nonneg_right (by omega) (by omega)
 have m2:1*2^bits.toNat≤cnt*2^bits.toNat:=Int.mul_le_mul_of_nonneg_right (by omega) (by omega)
 refine ⟨Zk6 (by omega),ZdU (by omega),Zk6 (by omega),ZkL (by omega) (by omega),ZdM (by omega) (by omega),by omega,by omega,by omega,r3,r5,p1,q1,by omega,p2,b2,r2⟩
theorem V3 {γ:Type} {p:Prop} {_:Decidable p} (h:p):(Zn p:Option γ→Option γ)=fun x=>x:=funext fun x=>Zp h x
end Go.Proofs.YtmjkdbpffdampaaGreat
end

section
namespace Go.Proofs.YtmjkdbpffdampaaGreat
open Go Go.AM
set_option linter.unusedSimpArgs false
set_option linter.unusedVariables false
set_option maxRecDepth 100000
abbrev Zoh:List Sh:=[.int .i64,.int .i64,.int .i64]
def ZdK (i:Id):Bool:=decide (0≤i.core∧i.core < 32∧1≤i.op∧i.op≤1073741824∧0≤i.part∧i.part < 8)
def Znx (a b c d e f:Int):Bool:=decide (a < d∨(a=d∧(b < e∨(b=e∧c < f))))
theorem JB (l:List Id):(Zf l).length=l.length:=by simp [Zf]
theorem ZiZ (l:List Id) (n:Nat):(Zf l).take n=Zf (l.take n):=by simp [Zf,List.map_take]
theorem Zme {l:List Id} {i:Nat} {x:Id} (h:l[i]? = some x):(Zf l)[i]? = some (idc x):=by simp [Zf,h]
theorem ZaX {γ:Type} {l:List Id} {i:Int} {x:Id} (k:(Int×Int×Int)→Option γ) (h0:0≤i) (h:l[i.toNat]? = some x):Zq (Zf l) i Zoh k=k (x.core,x.op,x.part):=
 ZeO (sh:=Zoh) (r:=(x.core,x.op,x.part)) k h0 (Zme h) rfl
theorem K5 (a b c d e f:Int):((cop .eql a d&&(cop .eql b e&&(cop .eql c f&&true)))=true)↔((⟨a,b,c⟩:Id)=⟨d,e,f⟩):=by
 simp only [CQ,Id.mk.injEq,and_true]
structure Vn where
 id:Id
 path:List Id
 cap:Cap
def VJ (n:Vn) (i:Nat):Bool:=match n.path[i]? with | none=>true | some x=>ZdK x&&decide (x≠n.id)&&!(n.path.take i).contains x
def Yh (n:Vn):Bool:=ZdK n.id&&Kn n.cap&&decide (n.path.length≤8)&&(List.range n.path.length).all (VJ n)
end Go.Proofs.YtmjkdbpffdampaaGreat
end

section
namespace Go.Proofs.YtmjkdbpffdampaaGreat
open Go Go.AM
set_option linter.unusedSimpArgs false
set_option linter.unusedVariables false
set_option maxRecDepth 100000
theorem s72 (a b c:Int):g72 a b c=some (ZdK ⟨a,b,c⟩):=by
 rw [Zl2]
 repeat' split
 all_goals (refine congrArg some ?_;rw [Z4];simp only [ZdK,CQ] at *; omega)
theorem l73 {l:List Id} (hl:l.length < 2^63) (a b c:Int):∀ (j i fuel:Nat),l.length=i+j→j < fuel→Ziv fuel (Zf l) a b c i=some ((l.drop i).contains ⟨a,b,c⟩):=by
 intro j
 induction j with
 | zero =>
  intro i fuel h hf
  obtain ⟨f,rfl⟩:∃ f,fuel=f+1:=⟨fuel-1,by omega⟩
  rw [Zfr,if_neg (by simp only [CQ,JB];omega),List.drop_of_length_le (by omega)]
  rfl
 | succ j ih =>
  intro i fuel h hf
  obtain ⟨f,rfl⟩:∃ f,fuel=f+1:=⟨fuel-1,by omega⟩
  have hi:i < l.length:=by omega
  have hat:l[(i:Int).toNat]? = some l[i]:=by simp
  have a4:iop .add .i64 i 1=((i+1:Nat):Int):=by rw [Jp (by omega) (by omega)];omega
  rw [Zfr,if_pos (by simp only [CQ,JB];omega),ZaX _ (by omega) hat,a4,List.drop_eq_getElem_cons hi,List.contains_cons]
  by_cases he:l[i]=(⟨a,b,c⟩:Id)
  ·rw [if_pos (by rw [K5];exact he)]
   simp [he]
  ·rw [if_neg (by rw [K5];exact he),ih (i+1) f (by omega) (by omega)]
   have:((⟨a,b,c⟩:Id) == l[i])=false:=by simp;exact fun h=>he h.symm
   rw [this,Bool.false_or]
theorem s73 (l:List Id) (hl:l.length < 2^63) (a b c:Int):g73 (Zf l) a b c=some (l.contains ⟨a,b,c⟩):=by
 have:=l73 hl a b c l.length 0 Z2 (by omega) (V8 (by omega))
 rw [ZmW]
 exact this
def V5 (n:Vn) (i:Nat):Bool:=match n.path[i]? with | none=>true | some x=>ZdK x&&!(n.path.take i).contains x
theorem ZfX (n:Vn):Yh n=(ZdK n.id&&Kn n.cap&&decide (n.path.length≤8)&&(!n.path.contains n.id&&(List.range n.path.length).all (V5 n))):=by
 unfold Yh
 congr 1
 rw [Z4]
 simp only [Bool.and_eq_true,List.all_eq_true,List.mem_range,Bool.not_eq_true',← Bool.not_eq_true,List.contains_iff_mem]
 constructor
 ·intro h
  refine ⟨fun hc=>?_,fun i hi=>?_⟩
  ·obtain ⟨i,hi⟩:=List.mem_iff_getElem?.1 hc
   have:=h i (List.getElem?_eq_some_iff.1 hi).1
   unfold VJ at this
   rw [hi] at this
   simp at this
  ·have:=h i hi
   unfold VJ at this
   unfold V5
   rw [List.getElem?_eq_getElem hi] at this ⊢
   simp only [Bool.and_eq_true] at this ⊢
   exact ⟨this.1.1,this.2⟩
 ·intro ⟨h1,h2⟩ i hi
  have:=h2 i hi
  unfold V5 at this
  unfold VJ
  rw [List.getElem?_eq_getElem hi] at this ⊢
  simp only [Bool.and_eq_true,decide_eq_true_eq] at this ⊢
  exact ⟨⟨this.1,fun he=>h1 (he ▸ List.getElem_mem hi)⟩,this.2⟩
theorem l71 (n:Vn) (hl:n.path.length < 2^63):∀ (j i fuel:Nat),n.path.length=i+j→j < fuel→
  Zjt fuel n.id.core n.id.op n.id.part (Zf n.path) n.cap.kind n.cap.base n.cap.bits n.cap.rights n.cap.width n.cap.level n.cap.device i=some ((List.range' i j).all (V5 n)):=by
 intro j
 induction j with
 | zero =>
  intro i fuel h hf
  obtain ⟨f,rfl⟩:∃ f,fuel=f+1:=⟨fuel-1,by omega⟩
  rw [Zew,if_neg (by simp only [CQ,JB];omega)]
  rfl
 | succ j ih =>
  intro i fuel h hf
  obtain ⟨f,rfl⟩:∃ f,fuel=f+1:=⟨fuel-1,by omega⟩
  have hi:i < n.path.length:=by omega
  have hat:n.path[(i:Int).toNat]? = some n.path[i]:=by simp
  have a4:iop .add .i64 i 1=((i+1:Nat):Int):=by rw [Jp (by omega) (by omega)];omega
  have hp:V5 n i=(ZdK n.path[i]&&!(n.path.take i).contains n.path[i]):=by
   unfold V5
   rw [List.getElem?_eq_getElem hi]
  have hlt:(n.path.take i).length < 2^63:=by rw [List.length_take];omega
  rw [Zew,if_pos (by simp only [CQ,JB];omega),ZaX _ (by omega) hat,a4,List.range'_succ,List.all_cons,hp]
  simp only [s72,Option.bind_some]
  cases h1:ZdK n.path[i] with
  | false => simp
  | true =>
   rw [if_neg (by simp),Zp (by omega),Zp (by rw [JB];omega),ZaX _ (by omega) hat,Int.toNat_natCast,ZiZ,s73 _ hlt,Option.bind_some]
   cases h3:(n.path.take i).contains n.path[i] with
   | true => simp
   | false =>
    rw [if_neg (by simp)]
    have:=ih (i+1) f (by omega) (by omega)
    rw [this]
    simp
theorem s71 (n:Vn) (hl:n.path.length < 2^63):g71 n.id.core n.id.op n.id.part (Zf n.path) n.cap.kind n.cap.base n.cap.bits n.cap.rights n.cap.width n.cap.level n.cap.device=some (Yh n):=by
 rw [ZlZ,ZfX]
 simp only [s72,s68,Option.bind_some,JB,s73 _ hl]
 cases h1:ZdK n.id with
 | false => simp [show (⟨n.id.core, n.id.op, n.id.part⟩ : Id) = n.id from rfl, h1]
 | true =>
  cases h2:Kn n.cap with
  | false => simp [show (⟨n.id.core, n.id.op, n.id.part⟩ : Id) = n.id from rfl, h1, show (⟨n.cap.kind, n.cap.base, n.cap.bits, n.cap.rights, n.cap.width, n.cap.level, n.cap.device⟩ : Cap) = n.cap from rfl, h2]
  | true =>
   rw [if_neg (by simp),if_neg (by simp)]
   by_cases h3:n.path.length≤8
   ·rw [if_neg (by simp only [CQ];omega)]
    cases h4:n.path.contains n.id with
    | true => simp
    | false =>
     rw [if_neg (by simp)]
     have:=l71 n hl n.path.length 0 Z2 (by omega) (V8 (by omega))
     have e:(List.range' 0 n.path.length)=List.range n.path.length:=(List.range_eq_range' ..).symm
     rw [e] at this
     refine this.trans ?_
     simp [h3]
   ·rw [if_pos (by simp only [CQ];omega)]
    simp [h3]
theorem l77 {l m:List Id} (hl:l.length < 2^63) (hm:l.length=m.length):∀ (j i fuel:Nat),l.length=i+j→j < fuel→ZiC fuel (Zf l) (Zf m) i=some (decide (l.drop i=m.drop i)):=by
 intro j
 induction j with
 | zero =>
  intro i fuel h hf
  obtain ⟨f,rfl⟩:∃ f,fuel=f+1:=⟨fuel-1,by omega⟩
  rw [ZeR,if_neg (by simp only [CQ,JB];omega),List.drop_of_length_le (by omega),List.drop_of_length_le (by omega)]
  rfl
 | succ j ih =>
  intro i fuel h hf
  obtain ⟨f,rfl⟩:∃ f,fuel=f+1:=⟨fuel-1,by omega⟩
  have hi:i < l.length:=by omega
  have hi':i < m.length:=by omega
  have hat:l[(i:Int).toNat]? = some l[i]:=by simp
  have hat':m[(i:Int).toNat]? = some m[i]:=by simp
  have a4:iop .add .i64 i 1=((i+1:Nat):Int):=by rw [Jp (by omega) (by omega)];omega
  rw [ZeR,if_pos (by simp only [CQ,JB];omega),ZaX _ (by omega) hat,ZaX _ (by omega) hat',a4,List.drop_eq_getElem_cons hi,List.drop_eq_getElem_cons hi']
  by_cases he:l[i]=m[i]
  ·rw [if_neg (by rw [Bool.not_eq_true',← Bool.not_eq_true,K5];exact fun h=>h he),ih (i+1) f (by omega) (by omega)]
   simp only [he,List.cons.injEq,true_and]
  ·rw [if_pos (by rw [Bool.not_eq_true',← Bool.not_eq_true,K5];exact he)]
   simp only [List.cons.injEq,he,false_and,decide_false]
theorem s77 (l m:List Id) (hl:l.length < 2^63) (hm:m.length < 2^63):g77 (Zf l) (Zf m)=some (decide (l=m)):=by
 rw [ZmT,JB,JB]
 by_cases h:l.length=m.length
 ·rw [if_neg (by simp only [CQ];omega)]
  have:=l77 hl h l.length 0 Z2 (by omega) (V8 (by omega))
  rw [List.drop_zero,List.drop_zero] at this
  exact this
 ·rw [if_pos (by simp only [CQ];omega)]
  have:¬ l=m:=fun he=>h (by rw [he])
  simp [this]
end Go.Proofs.YtmjkdbpffdampaaGreat
end

section
namespace Go.Proofs.YtmjkdbpffdampaaGreat
open Go Go.AM
set_option linter.unusedSimpArgs false
set_option linter.unusedVariables false
set_option maxRecDepth 100000
theorem ZbH {n:Nat} (h:n < 2^63):n+1 < Z2:=by
 have:(2:Nat)^64≤Z2:=by decide
 omega
theorem YP {i n:Nat} (h:i < n) (hn:n < 2^63):iop .add .i64 (i:Int) 1=((i+1:Nat):Int):=by
 rw [Jp (by omega) (by omega)];omega
theorem YY {i n:Nat} (h:i < n):(cop .lss (i:Int) (n:Int))=true:=by
 simp only [CQ];omega
theorem YU {i n:Nat} (h:n≤i):¬ (cop .lss (i:Int) (n:Int))=true:=by
 simp only [CQ];omega
theorem VT {γ:Type} {F:Nat→Int→Option γ} {n:Nat} {fin bad:Option γ} (p:Nat→Bool) (hn:n < 2^63) (i0:Nat) (hi0:i0≤1)
  (step:∀ k i:Nat,i0≤i→i < n→F (k+1) (i:Int)=if p i=true then F k ((i+1:Nat):Int) else bad)
  (last:∀ k i:Nat,n≤i→F (k+1) (i:Int)=fin):F Z2 (i0:Int)=if (List.range' i0 (n-i0)).all p=true then fin else bad:=by
 have key:∀ (j i fuel:Nat),i0≤i→n≤i+j→j < fuel→F fuel (i:Int)=if (List.range' i (n-i)).all p=true then fin else bad:=by
  intro j
  induction j with
  | zero =>
   intro i fuel h0 h hf
   obtain ⟨f,rfl⟩:∃ f,fuel=f+1:=⟨fuel-1,by omega⟩
   rw [last f i (by omega),show n-i=0 by omega]
   rfl
  | succ j ih =>
   intro i fuel h0 h hf
   obtain ⟨f,rfl⟩:∃ f,fuel=f+1:=⟨fuel-1,by omega⟩
   by_cases hi:i < n
   ·rw [step f i h0 hi,show n-i=(n-(i+1))+1 by omega,List.range'_succ,List.all_cons]
    cases hp:p i with
    | true => rw [if_pos rfl, ih (i + 1) f (by omega) (by omega) (by omega), Bool.true_and]
    | false => rw [if_neg Bool.false_ne_true, Bool.false_and, if_neg Bool.false_ne_true]
   ·rw [last f i (by omega),show n-i=0 by omega]
    rfl
 exact key n i0 Z2 (Nat.le_refl _) (by omega) (by have:=ZbH hn;omega)
theorem Zfw {F:Nat→Int→Option Int} {n:Nat} (p:Nat→Bool) (hn:n < 2^63)
  (step:∀ k i:Nat,i < n→F (k+1) (i:Int)=if p i=true then some (i:Int) else F k ((i+1:Nat):Int))
  (last:∀ k i:Nat,n≤i→F (k+1) (i:Int)=some (-1)):∃ r,F Z2 0=some r∧cop .geq r 0=(List.range' 0 n).any p:=by
 have key:∀ (j i fuel:Nat),n≤i+j→j < fuel→∃ r,F fuel (i:Int)=some r∧cop .geq r 0=(List.range' i (n-i)).any p:=by
  intro j
  induction j with
  | zero =>
   intro i fuel h hf
   obtain ⟨f,rfl⟩:∃ f,fuel=f+1:=⟨fuel-1,by omega⟩
   rw [last f i (by omega),show n-i=0 by omega]
   exact ⟨_,rfl,rfl⟩
  | succ j ih =>
   intro i fuel h hf
   obtain ⟨f,rfl⟩:∃ f,fuel=f+1:=⟨fuel-1,by omega⟩
   by_cases hi:i < n
   ·rw [step f i hi,show n-i=(n-(i+1))+1 by omega,List.range'_succ,List.any_cons]
    cases hp:p i with
    | true =>
     rw [if_pos rfl,Bool.true_or]
     refine ⟨_,rfl,?_⟩
     simp only [CQ]
     omega
    | false => rw [if_neg Bool.false_ne_true, Bool.false_or]; exact ih (i + 1) f (by omega) (by omega)
   ·rw [last f i (by omega),show n-i=0 by omega]
    exact ⟨_,rfl,rfl⟩
 have:=key n 0 Z2 (by omega) (by have:=ZbH hn;omega)
 simpa using this
def atB {α:Type} (q:α→Bool) (l:List α) (i:Nat):Bool:=match l[i]? with | some x=>q x | none=>true
theorem VG {α:Type} (q:α→Bool) {l:List α} {i:Nat} (h:i < l.length):atB q l i=q l[i]:=by
 unfold atB
 rw [List.getElem?_eq_getElem h]
theorem ZeQ {α:Type} (q:α→Bool) (l:List α):(List.range' 0 l.length).all (atB q l)=l.all q:=by
 rw [Z4,List.all_eq_true,List.all_eq_true]
 constructor
 ·intro h x hx
  obtain ⟨i,hi,rfl⟩:=List.getElem_of_mem hx
  have:=h i (by simp [List.mem_range',hi])
  rwa [VG q hi] at this
 ·intro h i hi
  have hi':i < l.length:=by simpa [List.mem_range'] using hi
  rw [VG q hi']
  exact h _ (List.getElem_mem hi')
theorem ZjU {α:Type} (q:α→Bool) (l:List α):(List.range' 0 l.length).any (fun i=>!atB q l i) = !(l.all q):=by
 rw [← ZeQ q l,List.any_eq_not_all_not]
 simp
def ZmL {α:Type} (lt:α→α→Bool) (l:List α):Nat→Bool
 | 0 => true
 | j + 1 => match l[j]?, l[j + 1]? with | some a, some b => lt a b | _, _ => true
def Ze0 {α:Type} (lt:α→α→Bool) (l:List α):Bool:=(List.range' 0 l.length).all (ZmL lt l)
theorem ZhN {α:Type} (lt:α→α→Bool) {l:List α} {j:Nat} (h:j+1 < l.length):ZmL lt l (j+1)=lt l[j] l[j+1]:=by
 show (match l[j]?,l[j+1]? with | some a,some b=>lt a b | _,_=>true)=_
 rw [List.getElem?_eq_getElem h,List.getElem?_eq_getElem (show j < l.length by omega)]
structure Call where
 kind:Int
 slot:Int
 dest:Int
 core:Int
 mask:Int
 object:Int
 bits:Int
 level:Int
 offset:Int
 count:Int
 index:Int
 addr:Int
structure Req where
 id:Id
 call:Call
 region:Int
 width:Int
 src:Vn
structure Jt where
 node:Vn
 op:Int
 lock:Id
structure ZjJ where
 region:Int
 op:Id
structure Ans where
 op:Int
 err:Int
structure ZP where
 core:Int
 slot:Int
 node:Vn
structure ZoF where
 region:Int
 to:Int
structure Zkc where
 number:Int
 members:List Int
 owners:List Int
structure WC where
 slots:List Jt
 pending:List Req
 marks:List ZjJ
 answers:List Ans
 entries:List ZP
 commits:List Id
structure ZbV where
 core:Int
 view:Zkc
 state:WC
 ready:Bool
 next:Zkc
 proposal:WC
def ZnJ (n:Vn):List AV:=[I n.id.core,I n.id.op,I n.id.part,.slice false 3 (Zf n.path),I n.cap.kind,I n.cap.base,I n.cap.bits,I n.cap.rights,I n.cap.width,I n.cap.level,B n.cap.device]
def ZgF (r:Req):List AV:=[I r.id.core,I r.id.op,I r.id.part,I r.call.kind,I r.call.slot,I r.call.dest,I r.call.core,I r.call.mask,I r.call.object,I r.call.bits,I r.call.level,I r.call.offset,I r.call.count,I r.call.index,I r.call.addr,I r.region,I r.width,I r.src.id.core,I r.src.id.op,I r.src.id.part,.slice false 3 (Zf r.src.path),I r.src.cap.kind,I r.src.cap.base,I r.src.cap.bits,I r.src.cap.rights,I r.src.cap.width,I r.src.cap.level,B r.src.cap.device]
def Z9 (s:Jt):List AV:=[I s.node.id.core,I s.node.id.op,I s.node.id.part,.slice false 3 (Zf s.node.path),I s.node.cap.kind,I s.node.cap.base,I s.node.cap.bits,I s.node.cap.rights,I s.node.cap.width,I s.node.cap.level,B s.node.cap.device,I s.op,I s.lock.core,I s.lock.op,I s.lock.part]
def Zh7 (m:ZjJ):List AV:=[I m.region,I m.op.core,I m.op.op,I m.op.part]
def Zla (a:Ans):List AV:=[I a.op,I a.err]
def Zm (e:ZP):List AV:=[I e.core,I e.slot,I e.node.id.core,I e.node.id.op,I e.node.id.part,.slice false 3 (Zf e.node.path),I e.node.cap.kind,I e.node.cap.base,I e.node.cap.bits,I e.node.cap.rights,I e.node.cap.width,I e.node.cap.level,B e.node.cap.device]
abbrev Zmw:List Sh:=[.int .i64,.int .i64,.int .i64,.slice 3,.int .i64,.int .i64,.int .i64,.int .i64,.int .i64,.int .i64,.bool]
abbrev Zkz:List Sh:=[.int .i64,.int .i64,.int .i64,.int .i64,.int .i64,.int .i64,.int .i64,.int .i64,.int .i64,.int .i64,.int .i64,.int .i64,.int .i64,.int .i64,.int .i64,.int .i64,.int .i64,.int .i64,.int .i64,.int .i64,.slice 3,.int .i64,.int .i64,.int .i64,.int .i64,.int .i64,.int .i64,.bool]
abbrev Zc3:List Sh:=[.int .i64,.int .i64,.int .i64,.slice 3,.int .i64,.int .i64,.int .i64,.int .i64,.int .i64,.int .i64,.bool,.int .i64,.int .i64,.int .i64,.int .i64]
abbrev W8:List Sh:=[.int .i64,.int .i64,.int .i64,.int .i64,.int .i64,.slice 3,.int .i64,.int .i64,.int .i64,.int .i64,.int .i64,.int .i64,.bool]
def Zj6 (n:Vn):ShsT Zmw:=(n.id.core,n.id.op,n.id.part,Zf n.path,n.cap.kind,n.cap.base,n.cap.bits,n.cap.rights,n.cap.width,n.cap.level,n.cap.device)
def Zov (r:Req):ShsT Zkz:=(r.id.core,r.id.op,r.id.part,r.call.kind,r.call.slot,r.call.dest,r.call.core,r.call.mask,r.call.object,r.call.bits,r.call.level,r.call.offset,r.call.count,r.call.index,r.call.addr,r.region,r.width,r.src.id.core,r.src.id.op,r.src.id.part,Zf r.src.path,r.src.cap.kind,r.src.cap.base,r.src.cap.bits,r.src.cap.rights,r.src.cap.width,r.src.cap.level,r.src.cap.device)
def Zhl (s:Jt):ShsT Zc3:=(s.node.id.core,s.node.id.op,s.node.id.part,Zf s.node.path,s.node.cap.kind,s.node.cap.base,s.node.cap.bits,s.node.cap.rights,s.node.cap.width,s.node.cap.level,s.node.cap.device,s.op,s.lock.core,s.lock.op,s.lock.part)
def Yd (e:ZP):ShsT W8:=(e.core,e.slot,e.node.id.core,e.node.id.op,e.node.id.part,Zf e.node.path,e.node.cap.kind,e.node.cap.base,e.node.cap.bits,e.node.cap.rights,e.node.cap.width,e.node.cap.level,e.node.cap.device)
theorem Y0 {α γ:Type} {f:α→List AV} {sh:List Sh} {v:α→ShsT sh} (hf:∀ x,Zhj sh (f x)=some (v x)) {l:List α} {i:Nat} (h:i < l.length) (k:ShsT sh→Option γ):Zq (l.map f) (i:Int) sh k=k (v l[i]):=by
 refine ZeO k (by omega) (cs:=f l[i]) ?_ (hf _)
 rw [Int.toNat_natCast,List.getElem?_map,List.getElem?_eq_getElem h]
 rfl
theorem ZhW {γ:Type} {l:List Req} {i:Nat} (h:i < l.length) (k:ShsT Zkz→Option γ):Zq (l.map ZgF) (i:Int) Zkz k=k (Zov l[i]):=Y0 (fun _=>rfl) h k
theorem J5 {γ:Type} {l:List Jt} {i:Nat} (h:i < l.length) (k:ShsT Zc3→Option γ):Zq (l.map Z9) (i:Int) Zc3 k=k (Zhl l[i]):=Y0 (fun _=>rfl) h k
theorem Zx {γ:Type} {l:List ZP} {i:Nat} (h:i < l.length) (k:ShsT W8→Option γ):Zq (l.map Zm) (i:Int) W8 k=k (Yd l[i]):=Y0 (fun _=>rfl) h k
theorem Jl {γ:Type} {l:List Int} {i:Nat} (h:i < l.length) (k:Int→Option γ):Zq (Ze l) (i:Int) [.int .i64] k=k l[i]:=Y0 (f:=Zlb) (sh:=[.int .i64]) (v:=fun x=>x) (fun _=>rfl) h k
end Go.Proofs.YtmjkdbpffdampaaGreat
end

section
namespace Go.Proofs.YtmjkdbpffdampaaGreat
open Go Go.AM
set_option linter.unusedSimpArgs false
set_option linter.unusedVariables false
set_option maxRecDepth 100000
def Wz (z:Int):Bool:=decide (0≤z∧z < 32)
def Zhf (z:Int):Bool:=decide (0≤z∧z < 16)
def ZjV (z:Int):Bool:=decide (0≤z∧z < 64)
def Zmo (z:Int):Bool:=decide (0≤z∧z≤99)
def Zit (i:Id):Bool:=ZdK i&&decide (i.part=0)
def Zcf (a b:Vn):Bool:=decide (a.id=b.id)&&decide (a.cap.kind=b.cap.kind∧a.cap.base=b.cap.base∧a.cap.bits=b.cap.bits∧a.cap.rights=b.cap.rights∧a.cap.width=b.cap.width∧a.cap.level=b.cap.level∧a.cap.device=b.cap.device)&&decide (a.path=b.path)
theorem Zg4 (a b:Cap):(((cop .eql a.kind b.kind)&&((cop .eql a.base b.base)&&((cop .eql a.bits b.bits)&&((cop .eql a.rights b.rights)&&((cop .eql a.width b.width)&&((cop .eql a.level b.level)&&((a.device == b.device)&&true)))))))=true)↔(a.kind=b.kind∧a.base=b.base∧a.bits=b.bits∧a.rights=b.rights∧a.width=b.width∧a.level=b.level∧a.device=b.device):=by
 simp only [CQ,beq_iff_eq,and_true]
theorem ZoG (a b:Vn) (ha:a.path.length < 2^63) (hb:b.path.length < 2^63):g51 a.id.core a.id.op a.id.part (Zf a.path) a.cap.kind a.cap.base a.cap.bits a.cap.rights a.cap.width a.cap.level a.cap.device b.id.core b.id.op b.id.part (Zf b.path) b.cap.kind b.cap.base b.cap.bits b.cap.rights b.cap.width b.cap.level b.cap.device=some (Zcf a b):=by
 rw [ZlI,s77 _ _ ha hb,Option.bind_some]
 unfold Zcf
 refine Zk (fun h=>?_) fun h=>?_
 ·rw [K5] at h
  refine Zk (fun h2=>?_) fun h2=>?_
  ·rw [Zg4] at h2
   rw [decide_eq_true (show a.id=b.id from h),decide_eq_true h2];rfl
  ·rw [Zg4] at h2
   rw [decide_eq_true (show a.id=b.id from h),decide_eq_false h2];rfl
 ·rw [K5] at h
  rw [decide_eq_false (show ¬ a.id=b.id from h)];rfl
def JW:Vn:=⟨⟨0,0,0⟩,[],⟨0,0,0,0,0,0,false⟩⟩
def Zel (r:Req):Bool:=Zit r.id&&decide (1≤r.call.kind∧r.call.kind≤6)&&Zhf r.region&&decide (r.width=32∨r.width=39)&&(if r.call.kind=1 then Zcf r.src JW else Yh r.src)
end Go.Proofs.YtmjkdbpffdampaaGreat
end

section
namespace Go.Proofs.YtmjkdbpffdampaaGreat
open Go Go.AM
set_option linter.unusedSimpArgs false
set_option linter.unusedVariables false
set_option maxRecDepth 100000
def zid:Id:=⟨0,0,0⟩
def ZnY (i:Id) (t:Jt):Bool:=!decide (t.node.id=zid)&&decide (t.node.id=i)
def Zls (s:Jt):Bool:=decide (0≤s.op∧s.op≤1073741824)&&(if s.node.id=zid then Zcf s.node JW&&decide (s.lock=zid) else Yh s.node&&(decide (s.lock=zid)||Zit s.lock))
def ZjK (l:List Jt) (i:Nat):Bool:=match l[i]? with | some s=>!((l.take i).any (ZnY s.node.id)) | none=>true
def ZdT (l:List Jt):Bool:=decide (l.length≤64)&&(List.range' 0 l.length).all (fun i=>atB Zls l i&&ZjK l i)
theorem ZkX (a b c:Int):((cop .eql a 0&&(cop .eql b 0&&(cop .eql c 0&&true)))=true)↔((⟨a,b,c⟩:Id)=zid):=K5 a b c 0 0 0
end Go.Proofs.YtmjkdbpffdampaaGreat
end

section
namespace Go.Proofs.YtmjkdbpffdampaaGreat
open Go Go.AM
set_option linter.unusedSimpArgs false
set_option linter.unusedVariables false
set_option maxRecDepth 100000
def Zno (a b:Id):Bool:=Znx a.core a.op a.part b.core b.op b.part
theorem s21 (a b c d e f:Int):g21 a b c d e f=some (Znx a b c d e f):=by
 rw [Zmy]
 repeat' split
 all_goals (refine congrArg some ?_;rw [Z4];simp only [Znx,CQ] at *; omega)
def ZeX (m:ZjJ):Bool:=Zhf m.region&&Zit m.op
def Zi2 (a:Ans):Bool:=decide (1≤a.op∧a.op≤1073741824)&&Zmo a.err
def Zjl (e:ZP):Bool:=Wz e.core&&ZjV e.slot&&Yh e.node
def ltp:Req→Req→Bool:=fun a b=>Zno a.id b.id
def ltm:ZjJ→ZjJ→Bool:=fun a b=>decide (a.region < b.region)
def lta:Ans→Ans→Bool:=fun a b=>decide (a.op < b.op)
def lte:ZP→ZP→Bool:=fun a b=>Zno a.node.id b.node.id
def ZaW (s:WC):Bool:=ZdT s.slots&&(s.pending.all Zel&&Ze0 ltp s.pending)&&(s.marks.all ZeX&&Ze0 ltm s.marks)&&(s.answers.all Zi2&&Ze0 lta s.answers)&&(s.entries.all Zjl&&Ze0 lte s.entries)&&s.commits.all Zit
end Go.Proofs.YtmjkdbpffdampaaGreat
end

section
namespace Go.Proofs.YtmjkdbpffdampaaGreat
open Go Go.AM
set_option linter.unusedSimpArgs false
set_option linter.unusedVariables false
set_option maxRecDepth 100000
theorem Zpk {n:Nat} (h:n≤maxLen):n < 2^63:=by
 have:maxLen+1=2^63:=by decide
 omega
end Go.Proofs.YtmjkdbpffdampaaGreat
end

section
namespace Go.Proofs.YtmjkdbpffdampaaGreat
open Go Go.AM
set_option linter.unusedSimpArgs false
set_option linter.unusedVariables false
set_option maxRecDepth 100000
theorem ZQ (l:List Int):(Ze l).length=l.length:=by simp [Ze]
def Zlp (z:Int):Bool:=decide (0≤z∧z≤1073741824)
theorem s85 (l:List Int) (hl:l.length < 2^63) (a:Int):∃ r,g85 (Ze l) a=some r∧cop .geq r 0=l.any (fun x=>decide (a=x)):=by
 rw [ZmD,ZQ]
 have:=Zfw (F:=fun k i=>Zgq k (Ze l) a (l.length:Int) i) (n:=l.length) (fun i=>!atB (fun x=>!decide (a=x)) l i) hl
  (fun k i hi=>by
   show Zgq (k+1) _ _ _ _=_
   rw [ZeE,if_pos (YY hi)]
   refine (Jl hi _).trans ?_
   rw [YP hi hl,VG _ hi,Bool.not_not]
   rfl)
  (fun k i hi=>by show Zgq (k+1) _ _ _ _=_;rw [ZeE,if_neg (YU hi)])
 rw [ZjU] at this
 have e:(!(l.all fun x=>!decide (a=x)))=l.any (fun x=>decide (a=x)):=by
  rw [List.any_eq_not_all_not]
 rw [e] at this
 exact this
theorem s59 (l:List Int) (hl:l.length < 2^63) (a:Int):g59 (Ze l) a=some (l.any (fun x=>decide (a=x))):=by
 obtain ⟨r,h1,h2⟩:=s85 l hl a
 rw [ZmH,h1,Option.bind_some,h2]
theorem s76 (l:List Int) (hl:l.length < 2^63) (a:Int):g76 (Ze l) a=some (l.any (fun x=>decide (a=x))):=by
 rw [Zlr]
 have:=VT (F:=fun k i=>Zd2 k (Ze l) a i) (n:=l.length) (fin:=some false) (bad:=some true) (atB (fun x=>!decide (a=x)) l) hl 0 (by omega)
  (fun k i _ hi=>by
   show Zd2 (k+1) (Ze l) _ _=_
   rw [ZeG,ZQ,if_pos (YY hi)]
   refine (Jl hi _).trans ?_
   rw [YP hi hl,VG _ hi]
   generalize Zd2 k (Ze l) a ((i+1:Nat):Int)=X
   generalize l[i]=t
   by_cases h:a=t
   ·rw [if_pos (by simp only [CQ];exact h.symm),if_neg (by simp [h])]
   ·rw [if_neg (by simp only [CQ];exact fun he=>h he.symm),if_pos (by simp [h])])
  (fun k i hi=>by show Zd2 (k+1) (Ze l) _ _=_;rw [ZeG,ZQ,if_neg (YU hi)])
 rw [Nat.sub_zero,ZeQ] at this
 refine Eq.trans this ?_
 rw [List.any_eq_not_all_not]
 cases l.all (fun x=>!decide (a=x))<;>rfl
def ZnI (l:List Int) (i:Nat):Bool:=match l[i]? with | some x=>!((l.take i).any (fun y=>decide (x=y))) | none=>true
def Zhg (v:Zkc):Bool:=Zlp v.number&&decide (v.members.length≤32)&&decide (v.owners.length≤16)&&(List.range' 0 v.members.length).all (fun i=>atB Wz v.members i&&ZnI v.members i)&&v.owners.all Wz
def ZlP (r:ZbV):Bool:=Wz r.core&&Zhg r.view&&ZaW r.state&&Zhg r.next&&ZaW r.proposal
end Go.Proofs.YtmjkdbpffdampaaGreat
end

section
namespace Go.Proofs.YtmjkdbpffdampaaGreat
open Go Go.AM
set_option linter.unusedSimpArgs false
set_option linter.unusedVariables false
set_option maxRecDepth 100000
structure Msg where
 kind:Int
 view:Int
 frm:Int
 to:Int
 round:Int
 region:Int
 slot:Int
 op:Id
 err:Int
 settled:Bool
 req:Req
 ids:List Id
 nodes:List Vn
 cores:List Int
 moves:List ZoF
 base:Int
 next:Zkc
 state:WC
 report:ZbV
def Zlw:Call:=⟨0,0,0,0,0,0,0,0,0,0,0,0⟩
def Zbd:Req:=⟨zid,Zlw,0,0,JW⟩
def Zih:Zkc:=⟨0,[],[]⟩
def Zec:WC:=⟨[],[],[],[],[],[]⟩
def Zi9:ZbV:=⟨0,Zih,Zec,false,Zih,Zec⟩
def Zpp (r:Req):Bool:=decide (r.id=zid)&&decide (r.call.kind=0∧r.call.slot=0∧r.call.dest=0∧r.call.core=0∧r.call.mask=0∧r.call.object=0∧r.call.bits=0∧r.call.level=0∧r.call.offset=0∧r.call.count=0∧r.call.index=0∧r.call.addr=0)&&decide (r.region=0)&&decide (r.width=0)&&Zcf r.src JW
def Zkr (v:Zkc):Bool:=decide (v.number=0)&&decide (v.members.length=0)&&decide (v.owners.length=0)
def Zh1 (s:WC):Bool:=decide (s.slots.length=0)&&decide (s.pending.length=0)&&decide (s.marks.length=0)&&decide (s.answers.length=0)&&decide (s.entries.length=0)&&decide (s.commits.length=0)
def Zj5 (r:ZbV):Bool:=decide (r.core=0)&&Zkr r.view&&Zh1 r.state&&!r.ready&&Zkr r.next&&Zh1 r.proposal
def zf (m:Msg):Nat→Bool
 | 0 => decide (m.region = 0)
 | 1 => Zpp m.req
 | 2 => decide (m.op = zid)
 | 3 => decide (m.err = 0)
 | 4 => !m.settled
 | 5 => decide (m.nodes.length = 0)
 | 6 => decide (m.slot = 0)
 | 7 => decide (m.ids.length = 0)
 | 8 => decide (m.round = 0)
 | 9 => decide (m.cores.length = 0)
 | 10 => Zj5 m.report
 | 11 => decide (m.base = 0)
 | 12 => Zkr m.next
 | 13 => Zh1 m.state
 | 14 => decide (m.moves.length = 0)
 | _ => true
end Go.Proofs.YtmjkdbpffdampaaGreat
end

section
namespace Go.Proofs.YtmjkdbpffdampaaGreat
open Go Go.AM
set_option linter.unusedSimpArgs false
set_option linter.unusedVariables false
set_option maxRecDepth 100000
def kf:Nat→List Nat
 | 1 => [0, 1]
 | 2 => [0, 2, 3, 4, 5]
 | 3 => [0, 2]
 | 4 => [0, 2, 6, 5]
 | 5 => [0, 2, 3]
 | 6 => [0, 2, 7]
 | 7 => [0, 2]
 | 8 => [0, 2]
 | 9 => [0, 2]
 | 10 => [0, 2]
 | 11 => [0, 2]
 | 12 => [8, 9]
 | 13 => [8, 10]
 | 14 => [8, 11, 9, 12, 13]
 | 15 => [8]
 | 16 => [8]
 | 17 => [9, 14]
 | _ => []
def kindOk (k:Int):Bool:=decide (1≤k∧k≤17)
def headOk (m:Msg):Bool:=kindOk m.kind&&Zlp m.view&&Wz m.frm&&Wz m.to
def rest (n:Nat) (m:Msg):Bool:=(List.range 15).all (fun g=>(kf n).contains g||zf m g)
end Go.Proofs.YtmjkdbpffdampaaGreat
end

section
namespace Go.Proofs.YtmjkdbpffdampaaGreat
open Go Go.AM
set_option linter.unusedSimpArgs false
set_option linter.unusedVariables false
set_option maxRecDepth 100000
theorem ZoR (a b:Int):cop .eql a b=decide (a=b):=rfl
def at2 {α:Type} (q:α→α→Bool) (l m:List α) (i:Nat):Bool:=match l[i]?,m[i]? with | some a,some b=>q a b | _,_=>true
def Zjp {α:Type} (q:α→α→Bool) (l m:List α):Bool:=decide (l.length=m.length)&&(List.range' 0 l.length).all (at2 q l m)
theorem ZjN {α:Type} (q:α→α→Bool) {l m:List α} {i:Nat} (h:i < l.length) (h':i < m.length):at2 q l m i=q l[i] m[i]:=by
 unfold at2
 rw [List.getElem?_eq_getElem h,List.getElem?_eq_getElem h']
def Zjb (a b:Req):Bool:=decide (a.id.core=b.id.core∧a.id.op=b.id.op∧a.id.part=b.id.part)&&decide (a.call.kind=b.call.kind∧a.call.slot=b.call.slot∧a.call.dest=b.call.dest∧a.call.core=b.call.core∧a.call.mask=b.call.mask∧a.call.object=b.call.object∧a.call.bits=b.call.bits∧a.call.level=b.call.level∧a.call.offset=b.call.offset∧a.call.count=b.call.count∧a.call.index=b.call.index∧a.call.addr=b.call.addr)&&decide (a.region=b.region)&&decide (a.width=b.width)&&Zcf a.src b.src
theorem s26 (a b:Req) (ha:a.src.path.length < 2^63) (hb:b.src.path.length < 2^63):g26 a.id.core a.id.op a.id.part a.call.kind a.call.slot a.call.dest a.call.core a.call.mask a.call.object a.call.bits a.call.level a.call.offset a.call.count a.call.index a.call.addr a.region a.width a.src.id.core a.src.id.op a.src.id.part (Zf a.src.path) a.src.cap.kind a.src.cap.base a.src.cap.bits a.src.cap.rights a.src.cap.width a.src.cap.level a.src.cap.device b.id.core b.id.op b.id.part b.call.kind b.call.slot b.call.dest b.call.core b.call.mask b.call.object b.call.bits b.call.level b.call.offset b.call.count b.call.index b.call.addr b.region b.width b.src.id.core b.src.id.op b.src.id.part (Zf b.src.path) b.src.cap.kind b.src.cap.base b.src.cap.bits b.src.cap.rights b.src.cap.width b.src.cap.level b.src.cap.device=some (Zjb a b):=by
 rw [Zl9,ZoG _ _ ha hb,Option.bind_some]
 unfold Zjb
 repeat' split
 all_goals (refine congrArg some ?_;rw [Z4];simp only [CQ] at * <;> grind)
def ZhA:Int→Int→Bool:=fun a b=>decide (a=b)
theorem s27 (l m:List Int) (hl:l.length < 2^63):g27 (Ze l) (Ze m)=some (Zjp ZhA l m):=by
 rw [ZlF,ZQ,ZQ]
 unfold Zjp
 by_cases h:l.length=m.length
 ·rw [if_neg (show ¬ (cop .neq (l.length:Int) (m.length:Int))=true by simp only [CQ];omega),decide_eq_true h,Bool.true_and]
  have:=VT (F:=fun k i=>Zg7 k (Ze l) (Ze m) i) (n:=l.length) (fin:=some true) (bad:=some false) (at2 ZhA l m) hl 0 (by omega)
   (fun k i _ hi=>by
    have hi':i < m.length:=by omega
    refine (Ze3 ..).trans ?_
    rw [ZQ,if_pos (YY hi)]
    refine (Jl hi _).trans ?_
    refine (Jl hi' _).trans ?_
    rw [YP hi hl,ZjN _ hi hi']
    generalize Zg7 k (Ze l) (Ze m) ((i+1:Nat):Int)=X
    try simp only [Jl hi,Jl hi',d2,d4,d8,d16,Option.bind_some]
    generalize l[i]=a
    generalize m[i]=b
    unfold ZhA
    repeat' split
    all_goals (simp only [ZoR,CQ] at * <;> grind))
   (fun k i hi=>by refine (Ze3 ..).trans ?_;rw [ZQ,if_neg (YU hi)])
  rw [Nat.sub_zero] at this
  refine Eq.trans this ?_
  cases (List.range' 0 l.length).all (at2 ZhA l m)<;>rfl
 ·rw [if_pos (show (cop .neq (l.length:Int) (m.length:Int))=true by simp only [CQ];omega),decide_eq_false h]
  rfl
theorem ZfS {α:Type} (q:α→α→Bool) (hq:∀ a,q a a=true) (l:List α):Zjp q l l=true:=by
 unfold Zjp
 rw [decide_eq_true rfl,Bool.true_and,List.all_eq_true]
 intro i hi
 have hi':i < l.length:=by simpa [List.mem_range'] using hi
 rw [ZjN q hi' hi',hq]
theorem ZfK (a:Vn):Zcf a a=true:=by simp [Zcf]
theorem ZfV (a:Req):Zjb a a=true:=by simp [Zjb,ZfK]
end Go.Proofs.YtmjkdbpffdampaaGreat
end

section
namespace Go.Proofs.YtmjkdbpffdampaaGreat
open Go Go.AM
set_option linter.unusedSimpArgs false
set_option linter.unusedVariables false
set_option maxRecDepth 100000
end Go.Proofs.YtmjkdbpffdampaaGreat
end

section
namespace Go.Proofs.YtmjkdbpffdampaaGreat
open Go Go.AM
set_option linter.unusedSimpArgs false
set_option linter.unusedVariables false
set_option maxRecDepth 100000
theorem Zg5 {α:Type} {F:Nat→LL→Int→Option LL} (l:List α) (f:α→LL) (hn:l.length < 2^63)
  (step:∀ (k i:Nat) (hi:i < l.length),F (k+1) ((l.take i).flatMap f) (i:Int)=F k ((l.take i).flatMap f++f l[i]) ((i+1:Nat):Int))
  (last:∀ (k:Nat) (acc:LL) (i:Nat),l.length≤i→F (k+1) acc (i:Int)=some acc):F Z2 [] 0=some (l.flatMap f):=by
 have key:∀ (j i fuel:Nat),l.length≤i+j→j < fuel→F fuel ((l.take i).flatMap f) (i:Int)=some (l.flatMap f):=by
  intro j
  induction j with
  | zero =>
   intro i fuel h hf
   obtain ⟨q,rfl⟩:∃ q,fuel=q+1:=⟨fuel-1,by omega⟩
   rw [last q _ i (by omega),List.take_of_length_le (by omega)]
  | succ j ih =>
   intro i fuel h hf
   obtain ⟨q,rfl⟩:∃ q,fuel=q+1:=⟨fuel-1,by omega⟩
   by_cases hi:i < l.length
   ·have e:(l.take i).flatMap f++f l[i]=(l.take (i+1)).flatMap f:=by
     rw [List.take_add_one,List.getElem?_eq_getElem hi,Option.toList_some,List.flatMap_append,List.flatMap_singleton]
    rw [step q i hi,e]
    exact ih (i+1) q (by omega) (by omega)
   ·rw [last q _ i (by omega),List.take_of_length_le (by omega)]
 exact key l.length 0 Z2 (by omega) (by have:=ZbH hn;omega)
theorem WS {α:Type} (f:α→List AV) (l:List α):l.flatMap (fun x=>[f x])=l.map f:=by
 induction l with
 | nil => rfl
 | cons a r ih => rw [List.flatMap_cons, ih, List.map_cons]; rfl
theorem ZU {a b:LL} {k:Nat} (h:a.length+b.length≤4096) (hk:k≤10000):Z0 a b k:=by
 unfold Z0 Jx
 have:(a.length+b.length)*(k+1)≤4096*10001:=Nat.mul_le_mul h (by omega)
 omega
theorem s62 (l:List Id) (h:l.length≤64):g62 (Zf l)=some (Zf l):=by
 rw [Zlm]
 exact Zp (ZU (by rw [JB];simp;omega) (by omega)) _
theorem s60 (l:List Id) (h:l.length≤64):g60 (Zf l)=some (Zf l):=by
 rw [Zmt]
 refine ZkC (fun hn=>?_) ?_
 ·rw [if_pos rfl,hn]
 ·rw [if_neg Bool.false_ne_true]
  exact Zp (ZU (by rw [JB];simp;omega) (by omega)) _
theorem s36 (n:Vn) (h:n.path.length≤64):g36 n.id.core n.id.op n.id.part (Zf n.path) n.cap.kind n.cap.base n.cap.bits n.cap.rights n.cap.width n.cap.level n.cap.device=some (Zj6 n):=by
 rw [Zln,s62 _ h];rfl
theorem s33 (n:Vn) (h:n.path.length≤64):g33 n.id.core n.id.op n.id.part (Zf n.path) n.cap.kind n.cap.base n.cap.bits n.cap.rights n.cap.width n.cap.level n.cap.device=some (Zj6 n):=by
 rw [Znj,s60 _ h];rfl
structure ZgG (l:List Jt):Prop where
 len:l.length≤70
 path:∀ s∈l,s.node.path.length≤20
end Go.Proofs.YtmjkdbpffdampaaGreat
end

section
namespace Go.Proofs.YtmjkdbpffdampaaGreat
open Go Go.AM
set_option linter.unusedSimpArgs false
set_option linter.unusedVariables false
set_option maxRecDepth 100000
theorem WX {α:Type} (f:α→List AV) (g:α→α) (l:List α) (i o:Nat) (c:List AV) (h:∀ x,l[i]? = some x→setCells (f x) o c=f (g x)):Jd (l.map f) i o c=(l.modify i g).map f:=by
 unfold Jd
 refine List.ext_getElem? fun j=>?_
 rw [List.getElem?_modify,List.getElem?_map,List.getElem?_map,List.getElem?_modify]
 cases hj:l[j]? with
 | none => rfl
 | some x =>
  by_cases hij:i=j
  ·subst hij
   simp [h x hj]
  ·simp [hij]
theorem s24 (l:List Jt) (h:ZgG l):g24 (l.map Z9)=some (l.map Z9):=by
 rw [Zm6]
 have hn:l.length < 2^63:=by have:=h.len;omega
 refine (Zg5 (F:=fun k acc i=>ZgE k (l.map Z9) acc i) l (fun r=>[Z9 r]) hn (fun k i hi=>?_) (fun k acc i hi=>?_)).trans (by rw [WS])
 ·show ZgE (k+1) _ _ _=_
  rw [ZfC,List.length_map,if_pos (YY hi)]
  refine (J5 hi _).trans ?_
  simp only [Zhl,d2,d4,d8,d16]
  have hp:=h.path l[i] (List.getElem_mem hi)
  rw [s36 l[i].node (by omega),Option.bind_some]
  refine (J5 hi _).trans ?_
  refine (J5 hi _).trans ?_
  refine (Zp (ZU ?_ (by omega)) _).trans ?_
  ·rw [WS]
   have:=h.len
   simp only [List.length_map,List.length_take,List.length_append,List.length_cons,List.length_nil]
   omega
  ·rw [YP hi hn]
   rfl
 ·show ZgE (k+1) _ _ _=_
  rw [ZfC,List.length_map,if_neg (YU hi)]
def ZaA (s:Jt):Bool:=if (cop .neq s.op 0)=true then true else !((cop .eql s.lock.core 0)&&((cop .eql s.lock.op 0)&&((cop .eql s.lock.part 0)&&true)))
theorem s30 (s:Jt):g30 s.node.id.core s.node.id.op s.node.id.part (Zf s.node.path) s.node.cap.kind s.node.cap.base s.node.cap.bits s.node.cap.rights s.node.cap.width s.node.cap.level s.node.cap.device s.op s.lock.core s.lock.op s.lock.part=some (ZaA s):=by
 rw [Zlj,ZaA]
 split<;>rfl
theorem s45 (s:Jt):g45 s.node.id.core s.node.id.op s.node.id.part (Zf s.node.path) s.node.cap.kind s.node.cap.base s.node.cap.bits s.node.cap.rights s.node.cap.width s.node.cap.level s.node.cap.device s.op s.lock.core s.lock.op s.lock.part=some (ZaA s):=by
 rw [Zlx,ZaA]
 split<;>rfl
def ZlR (op:Int) (s:Jt):Jt:={ s with op:=op }
theorem Znh (acc:List Jt) (i:Nat) (op:Int):Jd (acc.map Z9) i 11 [AV.val (.int .i64 op)]=(acc.modify i (ZlR op)).map Z9:=WX Z9 (ZlR op) acc i 11 _ fun _ _=>rfl
end Go.Proofs.YtmjkdbpffdampaaGreat
end

section
namespace Go.Proofs.YtmjkdbpffdampaaGreat
open Go Go.AM
set_option linter.unusedSimpArgs false
set_option linter.unusedVariables false
set_option maxRecDepth 100000
theorem KF {γ:Type} {F:Nat→Int→Option γ} {n:Nat} (hit:Nat→γ) (p:Nat→Bool) (hn:n < 2^63)
  (step:∀ k i:Nat,i < n→F (k+1) (i:Int)=if p i=true then some (hit i) else F k ((i+1:Nat):Int))
  (last:∀ k:Nat,F (k+1) (n:Int)=some (hit n)) (m:Nat) (hm:m≤n) (h1:∀ j,j < m→p j=false) (h2:m < n→p m=true):F Z2 0=some (hit m):=by
 have key:∀ (j i fuel:Nat),i+j=m→n-i < fuel→F fuel (i:Int)=some (hit m):=by
  intro j
  induction j with
  | zero =>
   intro i fuel h hf
   obtain ⟨q,rfl⟩:∃ q,fuel=q+1:=⟨fuel-1,by omega⟩
   have:i=m:=by omega
   subst this
   by_cases hi:i < n
   ·rw [step q i hi,if_pos (h2 hi)]
   ·have:i=n:=by omega
    subst this
    exact last q
  | succ j ih =>
   intro i fuel h hf
   obtain ⟨q,rfl⟩:∃ q,fuel=q+1:=⟨fuel-1,by omega⟩
   rw [step q i (by omega),if_neg (by rw [h1 i (by omega)];exact Bool.false_ne_true)]
   exact ih (i+1) q (by omega) (by omega)
 exact key m 0 Z2 (by omega) (by have:=ZbH hn;omega)
def Yt {α:Type} (q:α→Bool):List α→Nat
 | [] => 0
 | a :: r => match q a with | true => 0 | false => Yt q r + 1
theorem Kl {α:Type} (q:α→Bool):∀ (l:List α),Yt q l≤l.length
 | [] => Nat.le_refl _
 | a :: r => by
  unfold Yt
  have:=Kl q r
  split<;>simp only [List.length_cons]<;>omega
theorem Vb {α:Type} (q:α→Bool):∀ (l:List α) (j:Nat) (hj:j < l.length),j < Yt q l→q l[j]=false
 | [], j, hj, _ => by simp at hj
 | a :: r, j, hj, h => by
  unfold Yt at h
  split at h
  ·omega
  ·rename_i ha
   cases j with
   | zero => exact ha
   | succ j => exact Vb q r j (by simpa using hj) (by omega)
theorem Ws {α:Type} (q:α→Bool):∀ (l:List α) (h:Yt q l < l.length),q l[Yt q l]=true
 | [], h => by simp at h
 | a :: r, h => by
  cases ha:q a with
  | true =>
   have e:Yt q (a::r)=0:=by unfold Yt;rw [ha]
   simp only [e]
   exact ha
  | false =>
   have e:Yt q (a::r)=Yt q r+1:=by rw [Yt];rw [ha]
   have h':Yt q r < r.length:=by rw [e] at h;simpa using h
   have:=Ws q r h'
   simp only [e]
   exact this
def Zb0 (n m:Nat):Int:=if m < n then (m:Int) else -1
theorem Zfi (n m:Nat):cop .geq (Zb0 n m) 0=decide (m < n):=by
 unfold Zb0
 rw [Z4]
 split<;>simp only [CQ]<;>constructor<;>intro<;>first | omega | simp_all
theorem Zcy {n m:Nat} (h:m < n):Zb0 n m=(m:Int):=if_pos h
def before (r q:Req):Bool:=Zno r.id q.id
end Go.Proofs.YtmjkdbpffdampaaGreat
end

section
namespace Go.Proofs.YtmjkdbpffdampaaGreat
open Go Go.AM
set_option linter.unusedSimpArgs false
set_option linter.unusedVariables false
set_option maxRecDepth 100000
def Yi (s:Jt):Bool:=decide (s.node.id=zid)
theorem Zc7 (s:Jt):((cop .eql s.node.id.core 0)&&((cop .eql s.node.id.op 0)&&((cop .eql s.node.id.part 0)&&true)))=Yi s:=by
 rw [Z4,ZkX]
 unfold Yi
 rw [decide_eq_true_eq]
theorem s57 (s:Jt):g57 s.node.id.core s.node.id.op s.node.id.part (Zf s.node.path) s.node.cap.kind s.node.cap.base s.node.cap.bits s.node.cap.rights s.node.cap.width s.node.cap.level s.node.cap.device s.op s.lock.core s.lock.op s.lock.part=some (Yi s):=by rw [Zni,Zc7]
theorem s17 (s:Jt):g17 s.node.id.core s.node.id.op s.node.id.part (Zf s.node.path) s.node.cap.kind s.node.cap.base s.node.cap.bits s.node.cap.rights s.node.cap.width s.node.cap.level s.node.cap.device s.op s.lock.core s.lock.op s.lock.part=some (Yi s):=by rw [Zl3,Zc7]
def lockS (ids:List Id) (by_:Id) (s:Jt):Jt:=if Yi s=false∧ids.contains s.node.id=true then { s with lock:=by_ } else s
end Go.Proofs.YtmjkdbpffdampaaGreat
end

section
namespace Go.Proofs.YtmjkdbpffdampaaGreat
open Go Go.AM
set_option linter.unusedSimpArgs false
set_option linter.unusedVariables false
set_option maxRecDepth 100000
def Zoa (n:Vn) (s:Jt):Jt:={ s with node:=n }
theorem Zd8 {n:Vn} (h:Yh n=true):n.path.length≤8:=by
 simp only [Yh,Bool.and_eq_true,decide_eq_true_eq] at h
 exact h.1.2
theorem ZiN (l:List Jt) (i:Nat) (n:Vn):Jd (l.map Z9) i 0 (ZnJ n)=(l.modify i (Zoa n)).map Z9:=WX Z9 (Zoa n) l i 0 _ fun _ _=>rfl
end Go.Proofs.YtmjkdbpffdampaaGreat
end

section
namespace Go.Proofs.YtmjkdbpffdampaaGreat
open Go Go.AM
set_option linter.unusedSimpArgs false
set_option linter.unusedVariables false
set_option maxRecDepth 100000
def rep (k e:Int) (m:Msg):Msg:=⟨k,0,0,m.frm,0,m.region,0,m.op,e,false,Zbd,[],[],[],[],0,Zih,Zec,Zi9⟩
theorem s6 (x n:Int) (h1:1≤n) (h2:n < 2^62):g6 x n=some (x % n):=by
 have e62:(2:Int)^62=4611686018427387904:=by decide
 have hm0:=Int.emod_nonneg x (show n≠0 by omega)
 have hm1:=Int.emod_lt_of_pos x (show 0 < n by omega)
 have ht:iop .rem .i64 x n=x.tmod n:=rfl
 rw [Zn7,if_neg (by simp only [CQ];omega),Zp (by omega),ht]
 have:=Int.tmod_eq_emod (a:=x) (b:=n)
 by_cases hd:0≤x∨n ∣ x
 ·rw [if_pos hd] at this
  rw [if_neg (by simp only [CQ];omega)]
  congr 1
  omega
 ·rw [if_neg hd] at this
  have habs:((n.natAbs:Nat):Int)=n:=by omega
  have hne:x % n≠0:=fun h=>hd (.inr (Int.dvd_of_emod_eq_zero h))
  rw [if_pos (by simp only [CQ];omega),Jp (by omega) (by omega)]
  congr 1
  omega
end Go.Proofs.YtmjkdbpffdampaaGreat
end

section
namespace Go.Proofs.YtmjkdbpffdampaaGreat
open Go Go.AM
set_option linter.unusedSimpArgs false
set_option linter.unusedVariables false
set_option maxRecDepth 100000
structure ZkQ where
 root:Bool
 src:Int
 core:Int
 slot:Int
 kind:Int
 base:Int
 bits:Int
 count:Int
 rights:Int
 copy:Bool
def Wj (s:ZkQ):List AV:=[B s.root,I s.src,I s.core,I s.slot,I s.kind,I s.base,I s.bits,I s.count,I s.rights,B s.copy]
theorem ZlQ:Tryz.prog.cellsOf 82=10:=by kernel_rfl
theorem ZkI {d:Nat} {cs:List AV} (h:TyR Tryz.prog (d+2) 82 cs):∃ s:ZkQ,cs=Wj s:=by
 rw [TyR] at h
 simp only [Tryz.underlying82] at h
 obtain ⟨ps,rfl,hl,hp⟩:=h
 obtain ⟨p0,p1,p2,p3,p4,p5,p6,p7,p8,p9,rfl⟩:∃ p0 p1 p2 p3 p4 p5 p6 p7 p8 p9,ps = [p0,p1,p2,p3,p4,p5,p6,p7,p8,p9]:=by
  match ps,hl with
  | [p0, p1, p2, p3, p4, p5, p6, p7, p8, p9], _ => exact ⟨p0, p1, p2, p3, p4, p5, p6, p7, p8, p9, rfl⟩
 obtain ⟨a,rfl⟩:=Zg8 (hp 0 _ _ rfl rfl)
 obtain ⟨b,rfl⟩:=JV (hp 1 _ _ rfl rfl)
 obtain ⟨c,rfl⟩:=JV (hp 2 _ _ rfl rfl)
 obtain ⟨d,rfl⟩:=JV (hp 3 _ _ rfl rfl)
 obtain ⟨e,rfl⟩:=JV (hp 4 _ _ rfl rfl)
 obtain ⟨f,rfl⟩:=JV (hp 5 _ _ rfl rfl)
 obtain ⟨g,rfl⟩:=JV (hp 6 _ _ rfl rfl)
 obtain ⟨i,rfl⟩:=JV (hp 7 _ _ rfl rfl)
 obtain ⟨j,rfl⟩:=JV (hp 8 _ _ rfl rfl)
 obtain ⟨k,rfl⟩:=Zg8 (hp 9 _ _ rfl rfl)
 exact ⟨⟨a,b,c,d,e,f,g,i,j,k⟩,rfl⟩
theorem Zii {x:AV} (h:VO Tryz.prog 12 23 x):∃ l:List ZkQ,x = .slice false 10 (l.map Wj)∧l.length < 2^63:=by
 simp only [VO,Tryz.underlying23] at h
 have hh:=h.2
 rw [TyR] at hh
 simp only [Tryz.underlying23,ZlQ] at hh
 obtain ⟨xs,h1,h2,h3⟩:=hh
 obtain ⟨l,rfl,h5⟩:=ZaT (f:=Wj) (p:=fun _=>True) xs fun y hy=>(ZkI (h3 y hy)).elim fun a h=>⟨a,h,trivial⟩
 exact ⟨l,by simpa using h1,Zpk (by simpa using h2)⟩
end Go.Proofs.YtmjkdbpffdampaaGreat
end

section
namespace Go.Proofs.YtmjkdbpffdampaaGreat
open Go Go.AM
set_option linter.unusedSimpArgs false
set_option linter.unusedVariables false
set_option maxRecDepth 100000
theorem s86 (a b:Int):g86 a b=some (K6 a b):=by
 rw [Zmz]
 simp only [s46,Option.bind_some]
 cases h:Yf a b with
 | false => simp [K6, h]
 | true =>
  obtain ⟨h1,h2,h3,h4,h5⟩:=WJ h
  have hw:IntKind.wrap .u64 b=b:=Y4 (by omega) (by omega)
  simp only [Bool.not_true,Bool.false_eq_true,if_false,hw]
  rw [Zp (by omega),Zh8 h]
theorem s66 (a b c d:Int):g66 a b c d=some (ZmQ a b c d):=by
 rw [ZmG]
 simp only [s46,s86,Option.bind_some]
 repeat' split
 all_goals (refine congrArg some ?_;rw [Z4];simp only [ZmQ,ZG,ZO,ZN,ZK,ZF,ZH,ZC,ZD,ZI,ZE,ZJ,ZM,Bool.not_eq_true,Bool.not_eq_false,Bool.not_eq_true',Bool.not_eq_false',Bool.and_eq_true,Bool.or_eq_true,decide_eq_true_eq,decide_eq_false_iff_not,Bool.false_eq_true,Bool.true_eq_false,Option.bind_some,Option.some.injEq,false_iff,true_iff,iff_false,iff_true] at *; grind)
theorem s65 (a b c d:Int):g65 a b c d=some (inB a b c d):=by
 rw [ZmS]
 simp only [s46,s86,Option.bind_some]
 repeat' split
 all_goals (refine congrArg some ?_;rw [Z4];simp only [inB,ZG,ZO,ZN,ZK,ZF,ZH,ZC,ZD,ZI,ZE,ZJ,ZM,Bool.not_eq_true,Bool.not_eq_false,Bool.not_eq_true',Bool.not_eq_false',Bool.and_eq_true,Bool.or_eq_true,decide_eq_true_eq,decide_eq_false_iff_not,Bool.false_eq_true,Bool.true_eq_false,Option.bind_some,Option.some.injEq,false_iff,true_iff,iff_false,iff_true] at *; grind)
theorem s40 (k b s r w l:Int) (d:Bool) (m:Int):g40 k b s r w l d m=some (k,b,s,iop .and .i64 r m,w,l,d):=Zna ..
end Go.Proofs.YtmjkdbpffdampaaGreat
end

section
namespace Go.Proofs.YtmjkdbpffdampaaGreat
open Go Go.AM
set_option linter.unusedSimpArgs false
set_option linter.unusedVariables false
set_option maxRecDepth 100000
theorem l41 {b r w l k s:Int} {d fl:Bool} {lv wd bits sz off obj cnt:Int} (hb:0≤b) (hoff:0≤off) (hsz:0≤sz) (hc:cnt≤8) (hm:b+off+8*sz < 2^62):∀ (j i fuel:Nat),cnt=i+j→j < fuel→
  Ko fuel obj bits lv wd off cnt k b s r w l d fl sz (Jw obj (b+off) sz bits r (if fl=true then wd else 0) (if fl=true then lv else 0) d i) i=some (Jw obj (b+off) sz bits r (if fl=true then wd else 0) (if fl=true then lv else 0) d cnt.toNat,0):=by
 intro j
 have e62:(2:Int)^62=4611686018427387904:=by decide
 induction j with
 | zero =>
  intro i fuel h hf
  obtain ⟨f,rfl⟩:∃ f,fuel=f+1:=⟨fuel-1,by omega⟩
  rw [ZfA,if_neg (by simp only [ZG,ZO,ZN,ZK,ZF,ZH,ZC,ZD,ZI,ZE,ZJ,ZM,Bool.not_eq_true,Bool.not_eq_false,Bool.not_eq_true',Bool.not_eq_false',Bool.and_eq_true,Bool.or_eq_true,decide_eq_true_eq,decide_eq_false_iff_not,Bool.false_eq_true,Bool.true_eq_false,Option.bind_some,Option.some.injEq,false_iff,true_iff,iff_false,iff_true];omega)]
  have:cnt.toNat=i:=by omega
  rw [this]
 | succ j ih =>
  intro i fuel h hf
  obtain ⟨f,rfl⟩:∃ f,fuel=f+1:=⟨fuel-1,by omega⟩
  have hsi:(i:Int)*sz≤8*sz:=Int.mul_le_mul_of_nonneg_right (by omega) hsz
  have hsi0:0≤(i:Int)*sz:=Int.mul_nonneg (by omega) hsz
  have a1:iop .add .i64 b off=b+off:=Jp (by omega) (by omega)
  have a2:iop .mul .i64 i sz=i*sz:=ZkL (by omega) (by omega)
  have a3:iop .add .i64 (b+off) (i*sz)=b+off+i*sz:=Jp (by omega) (by omega)
  have a4:iop .add .i64 i 1=((i+1:Nat):Int):=by rw [Jp (by omega) (by omega)];omega
  have:=ih (i+1) f (by omega) (by omega)
  rw [VY] at this
  rw [ZfA,if_pos (by simp only [ZG,ZO,ZN,ZK,ZF,ZH,ZC,ZD,ZI,ZE,ZJ,ZM,Bool.not_eq_true,Bool.not_eq_false,Bool.not_eq_true',Bool.not_eq_false',Bool.and_eq_true,Bool.or_eq_true,decide_eq_true_eq,decide_eq_false_iff_not,Bool.false_eq_true,Bool.true_eq_false,Option.bind_some,Option.some.injEq,false_iff,true_iff,iff_false,iff_true];omega)]
  cases fl
  ·simp only [Bool.false_eq_true,if_false] at this ⊢
   rw [Zp (JM (by rw [Kv];simp;omega)),a1,a2,a3,a4]
   exact this
  ·simp only [if_true] at this ⊢
   rw [Zp (JM (by rw [Kv];simp;omega)),a1,a2,a3,a4]
   exact this
set_option maxHeartbeats 4000000 in
theorem s41 (k b s r w l:Int) (d:Bool) (obj bits level width off cnt:Int):g41 k b s r w l d obj bits level width off cnt =
  some (YK ⟨k,b,s,r,w,l,d⟩ obj bits level width off cnt,YX ⟨k,b,s,r,w,l,d⟩ obj bits level width off cnt):=by
 rw [ZlL]
 simp only [s68,s69,s70,Option.bind_some]
 by_cases hh:Kn ⟨k,b,s,r,w,l,d⟩=true∧k=1∧iop .and .i64 r 2≠0∧Kg obj bits=true∧(obj=3→Wp width level=true)∧1≤cnt∧cnt≤8∧0≤off
 ·obtain ⟨h1,rfl,h3,h4,h5,h6,h7,h8⟩:=hh
  obtain ⟨n1,n2,n3,n4,n5,n6,n7,n8,n9,n10,n11,n12,n13,n14,n15,n16⟩:=Zfe h1 h4 h6 h7 h8
  have q1:(Zn ((0:Int)≤bits):Option (List (List AV)×Int)→_)=fun x=>x:=V3 n7
  have q2:(Zn ((2:Int)^bits.toNat≠0):Option (List (List AV)×Int)→_)=fun x=>x:=V3 n6
  have hw1:IntKind.wrap .u64 bits=bits:=Y4 n7 (by omega)
  have hw2:IntKind.wrap .u64 s=s:=Y4 n8 (by simp only at n16;omega)
  have q3:(Zn ((0:Int)≤s):Option (List (List AV)×Int)→_)=fun x=>x:=V3 n8
  simp only at n3 n5
  have loop:∀ fl:Bool,off+cnt*2^bits.toNat≤2^s.toNat→Ko Z2 obj bits level width off cnt 1 b s r w l d fl (2^bits.toNat) [] 0=some (Jw obj (b+off) (2^bits.toNat) bits r (if fl=true then width else 0) (if fl=true then level else 0) d cnt.toNat,0):=by
   intro fl hle
   have:=l41 (fl:=fl) (k:=1) (s:=s) (r:=r) (w:=w) (l:=l) (d:=d) (lv:=level) (wd:=width) (bits:=bits) (obj:=obj) (cnt:=cnt) n9 h8 (Int.le_of_lt n11) h7 (show b+off+8*2^bits.toNat < 2^62 by
    have e62:(2:Int)^62=4611686018427387904:=by decide
    simp only at n10
    omega) cnt.toNat 0 Z2 (by omega) (V8 (by omega))
   exact this
  have n9':0≤b:=n9
  have n10':b+2^s.toNat≤1099511627776:=n10
  have n5':off≤2^s.toNat→iop .sub .i64 (2^s.toNat) off=2^s.toNat-off:=fun h=>ZdM (by omega) (by omega)
  have hR:YX ⟨1,b,s,r,w,l,d⟩ obj bits level width off cnt=if d=true∧obj≠1∧obj≠2 then 5 else if off % 2^bits.toNat≠0∨2^s.toNat-cnt*2^bits.toNat < off∨(obj=1∧s≤bits) then 6 else 0:=by
   rw [YX,if_neg (by simp [h1]),if_neg h3,if_neg (by
    rintro (h | ⟨h,h'⟩ | h | h | h)
    ·rw [h4] at h;cases h
    ·rw [h5 h] at h';cases h'
    ·omega
    ·omega
    ·omega)]
  have hk1:cop .neq (1:Int) 1=false:=rfl
  simp only [hw1,hw2,n1,n2,n3,n4,q1,q2,q3,h1,h4,hk1,Bool.not_true,Bool.false_eq_true,if_false]
  clear n1 n2 n3 n4 n5 q1 q2 q3
  by_cases e5:d=true∧obj≠1∧obj≠2
  ·rw [if_pos e5] at hR
   obtain ⟨hd,e1,e2⟩:=e5
   repeat' (with_reducible refine Zk (fun _=>?_) (fun _=>?_))
   all_goals first
    | exact V0 (by decide) hR
    | (exfalso; simp only [ZG, ZO, ZN, ZK, ZF, ZH, ZC, ZD, ZI, ZE, ZJ, ZM, Bool.not_eq_true, Bool.not_eq_false, Bool.not_eq_true', Bool.not_eq_false', Bool.and_eq_true, Bool.or_eq_true, decide_eq_true_eq, decide_eq_false_iff_not, Bool.false_eq_true, Bool.true_eq_false, Option.bind_some, Option.some.injEq, false_iff, true_iff, iff_false, iff_true] at *; first | omega | grind)
  ·rw [if_neg e5] at hR
   by_cases e6:off % 2^bits.toNat≠0∨2^s.toNat-cnt*2^bits.toNat < off∨(obj=1∧s≤bits)
   ·rw [if_pos e6] at hR
    repeat' (with_reducible refine Zk (fun _=>?_) (fun _=>?_))
    all_goals first
     | exact V0 (by decide) hR
     | (exfalso; simp only [ZG, ZO, ZN, ZK, ZF, ZH, ZC, ZD, ZI, ZE, ZJ, ZM, Bool.not_eq_true, Bool.not_eq_false, Bool.not_eq_true', Bool.not_eq_false', Bool.and_eq_true, Bool.or_eq_true, decide_eq_true_eq, decide_eq_false_iff_not, Bool.false_eq_true, Bool.true_eq_false, Option.bind_some, Option.some.injEq, false_iff, true_iff, iff_false, iff_true] at *; rw [n5' (by omega)] at *; first | omega | grind)
     | (exfalso; simp only [ZG, ZO, ZN, ZK, ZF, ZH, ZC, ZD, ZI, ZE, ZJ, ZM, Bool.not_eq_true, Bool.not_eq_false, Bool.not_eq_true', Bool.not_eq_false', Bool.and_eq_true, Bool.or_eq_true, decide_eq_true_eq, decide_eq_false_iff_not, Bool.false_eq_true, Bool.true_eq_false, Option.bind_some, Option.some.injEq, false_iff, true_iff, iff_false, iff_true] at *; first | omega | grind)
   ·rw [if_neg e6] at hR
    have hL:∀ fl,Ko Z2 obj bits level width off cnt 1 b s r w l d fl (2^bits.toNat) [] 0=some (Jw obj (b+off) (2^bits.toNat) bits r (if fl=true then width else 0) (if fl=true then level else 0) d cnt.toNat,0):=fun fl=>loop fl (by omega)
    have n5:=n5' (by omega)
    simp only [hL,YK,hR,if_true,n5]
    have hfl:(cop .eql obj 3=true)=(obj=3):=by simp only [ZG,ZO,ZN,ZK,ZF,ZH,ZC,ZD,ZI,ZE,ZJ,ZM,Bool.not_eq_true,Bool.not_eq_false,Bool.not_eq_true',Bool.not_eq_false',Bool.and_eq_true,Bool.or_eq_true,decide_eq_true_eq,decide_eq_false_iff_not,Bool.false_eq_true,Bool.true_eq_false,Option.bind_some,Option.some.injEq,false_iff,true_iff,iff_false,iff_true]
    simp only [hfl]
    repeat' (with_reducible refine Zk (fun _=>?_) (fun _=>?_))
    all_goals first
     | rfl
     | (exfalso; simp only [ZG, ZO, ZN, ZK, ZF, ZH, ZC, ZD, ZI, ZE, ZJ, ZM, Bool.not_eq_true, Bool.not_eq_false, Bool.not_eq_true', Bool.not_eq_false', Bool.and_eq_true, Bool.or_eq_true, decide_eq_true_eq, decide_eq_false_iff_not, Bool.false_eq_true, Bool.true_eq_false, Option.bind_some, Option.some.injEq, false_iff, true_iff, iff_false, iff_true] at *; first | omega | grind)
 ·repeat' (with_reducible refine Zk (fun _=>?_) (fun _=>?_))
  all_goals first
   | exact V0 (by decide) (by simp only [ZG, ZO, ZN, ZK, ZF, ZH, ZC, ZD, ZI, ZE, ZJ, ZM, Bool.not_eq_true, Bool.not_eq_false, Bool.not_eq_true', Bool.not_eq_false', Bool.and_eq_true, Bool.or_eq_true, decide_eq_true_eq, decide_eq_false_iff_not, Bool.false_eq_true, Bool.true_eq_false, Option.bind_some, Option.some.injEq, false_iff, true_iff, iff_false, iff_true] at *; simp only [YX]; grind)
   | (exfalso; simp only [ZG, ZO, ZN, ZK, ZF, ZH, ZC, ZD, ZI, ZE, ZJ, ZM, Bool.not_eq_true, Bool.not_eq_false, Bool.not_eq_true', Bool.not_eq_false', Bool.and_eq_true, Bool.or_eq_true, decide_eq_true_eq, decide_eq_false_iff_not, Bool.false_eq_true, Bool.true_eq_false, Option.bind_some, Option.some.injEq, false_iff, true_iff, iff_false, iff_true] at *; grind)
end Go.Proofs.YtmjkdbpffdampaaGreat
end

section
namespace Go.Proofs.YtmjkdbpffdampaaGreat
open Go Go.AM
set_option linter.unusedSimpArgs false
set_option linter.unusedVariables false
set_option maxRecDepth 100000
def Ret {α:Type} (P:α→Prop) (o:Option α):Prop:=∃ r,o=some r∧P r
theorem Zh {α:Type} {P:α→Prop} {a:α} (h:P a):Ret P (some a):=⟨a,rfl,h⟩
theorem Zd {α β:Type} {P:β→Prop} {Q:α→Prop} {o:Option α} {f:α→Option β} (h:Ret Q o) (k:∀ r,Q r→Ret P (f r)):Ret P (o.bind f):=by
 obtain ⟨r,rfl,hr⟩:=h
 exact k r hr
theorem Zj {α:Type} {P:α→Prop} {c:Prop} {_:Decidable c} {a b:Option α} (h1:c→Ret P a) (h2:¬ c→Ret P b):Ret P (if c then a else b):=by
 split
 ·exact h1 ‹_›
 ·exact h2 ‹_›
theorem Zi {α:Type} {P:α→Prop} {p:Prop} {_:Decidable p} {x:Option α} (h:p) (k:Ret P x):Ret P (Zn p x):=by
 rw [Zp h];exact k
theorem Ju {α:Type} {P:α→Prop} {a b:Option α} (h:a=b) (k:Ret P b):Ret P a:=h ▸ k
theorem Yy {α β:Type} {P:β→Prop} {o:Option α} {a:α} {f:α→Option β} (h:o=some a) (k:Ret P (f a)):Ret P (o.bind f):=by
 subst h;exact k
theorem KP {σ γ:Type} {P:γ→Prop} {F:Nat→σ→Int→Option γ} {n:Nat} (J:Nat→σ→Prop) (hn:n < 2^63)
  (step:∀ (k i:Nat) (s:σ),i < n→J i s→(∀ s',J (i+1) s'→Ret P (F k s' ((i+1:Nat):Int)))→Ret P (F (k+1) s (i:Int)))
  (last:∀ (k:Nat) (s:σ),J n s→Ret P (F (k+1) s (n:Int))) (s:σ) (h:J 0 s):Ret P (F Z2 s 0):=by
 have key:∀ (j i fuel:Nat) (s:σ),i+j=n→j < fuel→J i s→Ret P (F fuel s (i:Int)):=by
  intro j
  induction j with
  | zero =>
   intro i fuel s h hf hj
   obtain ⟨q,rfl⟩:∃ q,fuel=q+1:=⟨fuel-1,by omega⟩
   have:i=n:=by omega
   subst this
   exact last q s hj
  | succ j ih =>
   intro i fuel s h hf hj
   obtain ⟨q,rfl⟩:∃ q,fuel=q+1:=⟨fuel-1,by omega⟩
   exact step q i s (by omega) hj fun s' hs=>ih (i+1) q s' (by omega) (by omega) hs
 exact key n 0 Z2 s (by omega) (by have:=ZbH hn;omega) h
theorem place (x n:Int) (h1:1≤n) (h2:n < 2^62):Ret (fun r=>0≤r∧r < n) (g6 x n):=⟨_,s6 x n h1 h2,Int.emod_nonneg x (by omega),Int.emod_lt_of_pos x (by omega)⟩
theorem Jb (l:List Int) (z:Int):Ret (fun _=>True) (g16 (Ze l) z):=by
 rw [ZjP]
 refine Zj (fun _=>Zh trivial) fun h1=>Zj (fun _=>Zh trivial) fun h2=>?_
 simp only [CQ,ZQ] at h1 h2
 have e:z=((z.toNat:Nat):Int):=by omega
 have hl:z.toNat < l.length:=by omega
 have:=Jl (γ:=Int) hl (fun r=>some r)
 rw [← e] at this
 exact Ju this (Zh trivial)
theorem YL {γ:Type} {P:γ→Prop} {l:List Int} {z:Int} {k:Int→Option γ} (h0:0≤z) (h:z.toNat < l.length) (hk:Ret P (k l[z.toNat])):Ret P (Zq (Ze l) z [.int .i64] k):=by
 have e:z=((z.toNat:Nat):Int):=by omega
 have:=Jl h k
 rw [← e] at this
 exact Ju this hk
theorem Kt {γ:Type} {P:γ→Prop} {l:List ZP} {z:Int} {k:ShsT W8→Option γ} (h0:0≤z) (h:z.toNat < l.length) (hk:Ret P (k (Yd l[z.toNat]))):Ret P (Zq (l.map Zm) z W8 k):=by
 have e:z=((z.toNat:Nat):Int):=by omega
 have:=Zx h k
 rw [← e] at this
 exact Ju this hk
def Zir (c:Cap):List AV:=[I c.kind,I c.base,I c.bits,I c.rights,I c.width,I c.level,B c.device]
abbrev ZhG:List Sh:=[.int .i64,.int .i64,.int .i64,.int .i64,.int .i64,.int .i64,.bool]
def Zk5 (c:Cap):ShsT ZhG:=(c.kind,c.base,c.bits,c.rights,c.width,c.level,c.device)
theorem VW {γ:Type} {l:List Cap} {i:Nat} (h:i < l.length) (k:ShsT ZhG→Option γ):Zq (l.map Zir) (i:Int) ZhG k=k (Zk5 l[i]):=Y0 (fun _=>rfl) h k
def atP {α:Type} (q:α→Bool) (p:List α) (i:Nat):Bool:=match p[i]? with | some x=>q x | none=>false
theorem YD {α:Type} (q:α→Bool) {p:List α} {i:Nat} (h:i < p.length):atP q p i=q p[i]:=by unfold atP;rw [List.getElem?_eq_getElem h]
def idE (i:Id) (e:ZP):Bool:=decide (e.node.id=i)
def plE (c s:Int) (e:ZP):Bool:=decide (e.core=c)&&decide (e.slot=s)
theorem s64 (l:List ZP) (hn:l.length < 2^63) (j:Id):g64 (l.map Zm) j.core j.op j.part=some (Zb0 l.length (Yt (idE j) l)):=by
 rw [ZlH]
 exact KF (F:=fun k z=>Zge k (l.map Zm) j.core j.op j.part z) (n:=l.length) (fun m=>Zb0 l.length m) (atP (idE j) l) hn
  (fun k i hi=>by
   show Zge (k+1) _ _ _ _ _=_
   rw [ZfI,List.length_map,if_pos (YY hi)]
   refine (Zx hi _).trans ?_
   simp only [Yd,d2,d4,d8,d16]
   rw [YP hi hn,YD _ hi,Zcy hi,idE]
   refine Zk (fun h1=>?_) fun h1=>?_
   ·rw [if_pos (by rw [K5] at h1;rw [decide_eq_true_eq];exact h1)]
   ·rw [if_neg (by rw [K5] at h1;rw [decide_eq_true_eq];exact h1)])
  (fun k=>by
   show Zge (k+1) _ _ _ _ _=_
   rw [ZfI,List.length_map,if_neg (YU (Nat.le_refl _)),Zb0,if_neg (Nat.lt_irrefl _)]) (Yt (idE j) l) (Kl _ l) (fun i hi=>by
    have hl:=Kl (idE j) l
    rw [YD _ (by omega)];exact Vb _ l i (by omega) hi) (fun h=>by rw [YD _ h];exact Ws _ l h)
theorem s87 (l:List ZP) (hn:l.length < 2^63) (c s:Int):g87 (l.map Zm) c s=some (Zb0 l.length (Yt (plE c s) l)):=by
 rw [Zlo]
 exact KF (F:=fun k z=>Zer k (l.map Zm) c s z) (n:=l.length) (fun m=>Zb0 l.length m) (atP (plE c s) l) hn
  (fun k i hi=>by
   show Zer (k+1) _ _ _ _=_
   rw [ZeU,List.length_map,if_pos (YY hi)]
   refine (Zx hi _).trans ?_
   simp only [Yd,d2,d4,d8,d16]
   rw [YP hi hn,YD _ hi,Zcy hi,plE]
   refine Zk (fun h1=>?_) fun h1=>?_
   ·simp only [CQ] at h1
    refine (Zx hi _).trans ?_
    simp only [Yd,d2,d4,d8,d16]
    refine Zk (fun h2=>?_) fun h2=>?_
    ·simp only [CQ] at h2
     rw [if_pos (by simp [h1,h2])]
    ·simp only [CQ] at h2
     rw [if_neg (by simp [h2])]
   ·simp only [CQ] at h1
    rw [if_neg (by simp [h1])])
  (fun k=>by
   show Zer (k+1) _ _ _ _=_
   rw [ZeU,List.length_map,if_neg (YU (Nat.le_refl _)),Zb0,if_neg (Nat.lt_irrefl _)]) (Yt (plE c s) l) (Kl _ l) (fun i hi=>by
    have hl:=Kl (plE c s) l
    rw [YD _ (by omega)];exact Vb _ l i (by omega) hi) (fun h=>by rw [YD _ h];exact Ws _ l h)
structure Zld (l:List ZP):Prop where
 len:l.length≤100
 path:∀ e∈l,e.node.path.length≤20
theorem s88 (l:List ZP) (h:Zld l):g88 (l.map Zm)=some (l.map Zm):=by
 rw [Zl8]
 have hn:l.length < 2^63:=by have:=h.len;omega
 refine (Zg5 (F:=fun k acc i=>Zgi k (l.map Zm) acc i) l (fun r=>[Zm r]) hn (fun k i hi=>?_) (fun k acc i hi=>?_)).trans (by rw [WS])
 ·show Zgi (k+1) _ _ _=_
  rw [ZeW,List.length_map,if_pos (YY hi)]
  refine (Zx hi _).trans ?_
  simp only [Yd,d2,d4,d8,d16]
  refine (Zx hi _).trans ?_
  refine (Zx hi _).trans ?_
  have hp:=h.path l[i] (List.getElem_mem hi)
  simp only [Yd,d2,d4,d8,d16]
  rw [s36 l[i].node (by omega),Option.bind_some]
  refine (Zp (ZU ?_ (by omega)) _).trans ?_
  ·rw [WS]
   have:=h.len
   simp only [List.length_map,List.length_take,List.length_append,List.length_cons,List.length_nil]
   omega
  ·rw [YP hi hn]
   rfl
 ·show Zgi (k+1) _ _ _=_
  rw [ZeW,List.length_map,if_neg (YU hi)]
def ZlB (l:List ZP) (x:ZP) (r:List ZP):Prop:=∃ i,i≤l.length∧(∀ j (h:j < l.length),j < i→lte x l[j]=false)∧(∀ h:i < l.length,lte x l[i]=true)∧l.any (idE x.node.id)=false∧l.any (plE x.core x.slot)=false∧r=l.take i++[x]++l.drop i
theorem ZjO {α:Type} (q:α→Bool) (l:List α) (h:¬ cop .geq (Zb0 l.length (Yt q l)) 0=true):l.any q=false:=by
 rw [Zfi,decide_eq_true_eq] at h
 rw [List.any_eq_false]
 intro x hx
 obtain ⟨i,hi,rfl⟩:=List.getElem_of_mem hx
 have:=Vb q l i hi (by omega)
 simp [this]
theorem ZhK {l m:List ZP} (h:Zld l) (hs:∀ e∈m,e∈l) (hl:m.length≤l.length):Zld m:=⟨by have:=h.len;omega,fun e he=>h.path e (hs e he)⟩
theorem s67 (l:List ZP) (h:Zld l) (x:ZP) (hx:x.node.path.length≤20):Ret (fun r=>r=(E0,false)∨∃ m,ZlB l x m∧r=(m.map Zm,true)) (g67 (l.map Zm) x.core x.slot x.node.id.core x.node.id.op x.node.id.part (Zf x.node.path) x.node.cap.kind x.node.cap.base x.node.cap.bits x.node.cap.rights x.node.cap.width x.node.cap.level x.node.cap.device):=by
 have hn:l.length < 2^63:=by have:=h.len;omega
 rw [Zlh,s64 l hn x.node.id,Option.bind_some]
 refine Zj (fun _=>Zh (.inl rfl)) fun h1=>?_
 rw [s87 l hn,Option.bind_some]
 refine Zj (fun _=>Zh (.inl rfl)) fun h2=>?_
 have n1:=ZjO _ _ h1
 have n2:=ZjO _ _ h2
 have ins:∀ (i:Nat),i≤l.length→(∀ j (h:j < l.length),j < i→lte x l[j]=false)→(∀ h:i < l.length,lte x l[i]=true)→Ret (fun r=>r=(E0,false)∨∃ m,ZlB l x m∧r=(m.map Zm,true)) (Zn ((0:Int)≤(i:Int))<|Zn ((i:Int)≤(List.length (l.map Zm):Int))<|
   (g88 (List.take (Int.toNat (i:Int)) (l.map Zm))).bind fun (r29:LL)=>(g36 x.node.id.core x.node.id.op x.node.id.part (Zf x.node.path) x.node.cap.kind x.node.cap.base x.node.cap.bits x.node.cap.rights x.node.cap.width x.node.cap.level x.node.cap.device).bind fun r30=>
   Zn (Z0 r29 (E0++[[I x.core,I x.slot,I r30.1,I r30.2.1,I r30.2.2.1,AV.slice false 3 r30.2.2.2.1,I r30.2.2.2.2.1,I r30.2.2.2.2.2.1,I r30.2.2.2.2.2.2.1,I r30.2.2.2.2.2.2.2.1,I r30.2.2.2.2.2.2.2.2.1,I r30.2.2.2.2.2.2.2.2.2.1,AV.val (.bool r30.2.2.2.2.2.2.2.2.2.2)]]) 120)<|
   Zn ((0:Int)≤(i:Int))<|Zn ((i:Int)≤(List.length (l.map Zm):Int))<|(g88 (List.drop (Int.toNat (i:Int)) (l.map Zm))).bind fun (r41:LL)=>
   Zn (Z0 (r29++(E0++[[I x.core,I x.slot,I r30.1,I r30.2.1,I r30.2.2.1,AV.slice false 3 r30.2.2.2.1,I r30.2.2.2.2.1,I r30.2.2.2.2.2.1,I r30.2.2.2.2.2.2.1,I r30.2.2.2.2.2.2.2.1,I r30.2.2.2.2.2.2.2.2.1,I r30.2.2.2.2.2.2.2.2.2.1,AV.val (.bool r30.2.2.2.2.2.2.2.2.2.2)]])) r41 120)<|
   some (((r29++(E0++[[I x.core,I x.slot,I r30.1,I r30.2.1,I r30.2.2.1,AV.slice false 3 r30.2.2.2.1,I r30.2.2.2.2.1,I r30.2.2.2.2.2.1,I r30.2.2.2.2.2.2.1,I r30.2.2.2.2.2.2.2.1,I r30.2.2.2.2.2.2.2.2.1,I r30.2.2.2.2.2.2.2.2.2.1,AV.val (.bool r30.2.2.2.2.2.2.2.2.2.2)]]))++r41),true)):=by
  intro i hi hlo hhi
  have hl:=h.len
  refine Zi (by omega) (Zi (by rw [List.length_map];omega) ?_)
  rw [Int.toNat_natCast,← List.map_take,← List.map_drop,s88 _ (ZhK h (fun e he=>List.mem_of_mem_take he) (by simp;omega)),Option.bind_some,s36 x.node (by omega),Option.bind_some]
  refine Zi (ZU (by simp;omega) (by omega)) (Zi (by omega) (Zi (by rw [List.length_map];omega) ?_))
  rw [s88 _ (ZhK h (fun e he=>List.mem_of_mem_drop he) (by simp)),Option.bind_some]
  refine Zi (ZU (by simp;omega) (by omega)) (Zh (.inr ⟨_,⟨i,hi,hlo,hhi,n1,n2,rfl⟩,?_⟩))
  simp [Zm,Zj6]
 refine KP (F:=fun k (_:Unit) z=>ZgB k (l.map Zm) x.core x.slot x.node.id.core x.node.id.op x.node.id.part (Zf x.node.path) x.node.cap.kind x.node.cap.base x.node.cap.bits x.node.cap.rights x.node.cap.width x.node.cap.level x.node.cap.device z) (n:=l.length) (fun i _=>∀ j (h:j < l.length),j < i→lte x l[j]=false) hn (fun k i _ hi hJ ih=>?_) (fun k _ hJ=>?_) () (fun j _ h0=>absurd h0 (Nat.not_lt_zero _))
 ·show Ret _ (ZgB (k+1) _ _ _ _ _ _ _ _ _ _ _ _ _ _ _)
  rw [ZeM,List.length_map,if_pos (YY hi)]
  refine Ju (Zx hi _) ?_
  simp only [Yd,d2,d4,d8,d16]
  rw [s21,Option.bind_some]
  refine Zj (fun hc=>?_) fun hc=>?_
  ·rw [YP hi hn]
   refine ih () fun j h1 h2=>?_
   by_cases hji:j < i
   ·exact hJ j h1 hji
   ·have:j=i:=by omega
    subst this
    rw [Bool.not_eq_true'] at hc
    exact hc
  ·have:=ins i (by omega) hJ fun _=>by rw [Bool.not_eq_true',Bool.not_eq_false] at hc;exact hc
   rw [List.length_map] at this
   exact this
 ·show Ret _ (ZgB (k+1) _ _ _ _ _ _ _ _ _ _ _ _ _ _ _)
  rw [ZeM,List.length_map,if_neg (YU (Nat.le_refl _))]
  have:=ins l.length (Nat.le_refl _) hJ fun h=>absurd h (Nat.lt_irrefl _)
  rw [List.length_map] at this
  exact this
theorem s39 (l:List ZP) (h:Zld l) (x:ZP) (hx:x.node.path.length≤20):Ret (fun r=>∃ m,(m=l∨ZlB l x m)∧r=m.map Zm) (g39 (l.map Zm) x.core x.slot x.node.id.core x.node.id.op x.node.id.part (Zf x.node.path) x.node.cap.kind x.node.cap.base x.node.cap.bits x.node.cap.rights x.node.cap.width x.node.cap.level x.node.cap.device):=by
 rw [Zmc]
 refine Zd (s67 l h x hx) fun r hr=>?_
 rcases hr with rfl | ⟨m,hm,rfl⟩
 ·exact Zj (fun _=>Zh ⟨l,.inl rfl,rfl⟩) fun h=>absurd rfl h
 ·exact Zj (fun h=>absurd h (by simp)) fun _=>Zh ⟨m,.inr hm,rfl⟩
structure Zhe (s:Vn) (i:Id) (c:Cap):Prop where
 src:Yh s=true
 id:ZdK i=true
 cap:Kn c=true
 ne:i≠s.id
 fresh:s.path.contains i=false
 room:s.path.length < 8
def ZaG (s:Vn) (i:Id) (c:Cap):Vn:=⟨i,s.path++[s.id],c⟩
theorem s42 (s:Vn) (hs:s.path.length≤20) (i:Id) (c:Cap):Ret (fun r=>(∃ e:Int,e≠0∧r=(0,0,0,E0,0,0,0,0,0,0,false,e))∨(Zhe s i c∧r=(i.core,i.op,i.part,Zf (s.path++[s.id]),c.kind,c.base,c.bits,c.rights,c.width,c.level,c.device,0)))
  (g42 s.id.core s.id.op s.id.part (Zf s.path) s.cap.kind s.cap.base s.cap.bits s.cap.rights s.cap.width s.cap.level s.cap.device i.core i.op i.part c.kind c.base c.bits c.rights c.width c.level c.device):=by
 rw [Zmm,s71 s (by omega),Option.bind_some]
 refine Zj (fun _=>Zh (.inl ⟨1,by omega,rfl⟩)) fun h1=>?_
 rw [s72,Option.bind_some]
 refine Zj (fun _=>Zh (.inl ⟨1,by omega,rfl⟩)) fun h2=>?_
 rw [s68,Option.bind_some]
 refine Zj (fun _=>Zh (.inl ⟨1,by omega,rfl⟩)) fun h3=>?_
 refine Zj (fun _=>Zh (.inl ⟨1,by omega,rfl⟩)) fun h4=>?_
 rw [K5] at h4
 rw [s73 s.path (by omega),Option.bind_some]
 refine Zj (fun _=>Zh (.inl ⟨1,by omega,rfl⟩)) fun h5=>?_
 refine Zj (fun _=>Zh (.inl ⟨9,by omega,rfl⟩)) fun h6=>?_
 rw [s62 s.path (by omega),Option.bind_some]
 refine Zi (ZU (by rw [JB];simp;omega) (by omega)) (Zh (.inr ⟨?_,?_⟩))
 ·simp only [Bool.not_eq_true',Bool.not_eq_false] at h1 h2 h3
  simp only [Bool.not_eq_true] at h5
  have h8:=Zd8 h1
  simp only [CQ,JB] at h6
  exact ⟨h1,h2,h3,h4,h5,by omega⟩
 ·simp [Zf,idc]
end Go.Proofs.YtmjkdbpffdampaaGreat
end

section
namespace Go.Proofs.YtmjkdbpffdampaaGreat
open Go Go.AM
set_option linter.unusedSimpArgs false
set_option linter.unusedVariables false
set_option maxRecDepth 100000
theorem ZmK {a b:Int} (h0:0≤b) (h1:b≤62) (h2:0≤a) (h3:a*2^b.toNat < 2^63):iop .shl .i64 a b=a*2^b.toNat:=by
 have hmin:min b.toNat IntKind.i64.bits=b.toNat:=by
  have:IntKind.i64.bits=64:=rfl
  omega
 simp only [iop,hmin]
 have hp:=JS b.toNat
 have:0≤a*2^b.toNat:=Int.mul_nonneg h2 (by omega)
 rw [Wk (by omega) h3]
theorem s63 (a b:Int):Ret (fun r=>∃ k q:Int,r=(q*2^k.toNat,k)∧6≤k∧k≤16∧0≤q∧q < 2^(16-k).toNat) (g63 a b):=by
 rw [ZlV]
 refine Zd (place b 11 (by omega) (by omega)) fun x hx=>?_
 obtain ⟨k,hk⟩:∃ k,k=6+x:=⟨_,rfl⟩
 have e1:iop .add .i64 6 x=k:=by rw [Jp (by omega) (by omega),hk]
 have e2:iop .sub .i64 16 k=16-k:=ZdM (by omega) (by omega)
 have w1:IntKind.wrap .u64 (16-k)=16-k:=Y4 (by omega) (by omega)
 have w2:IntKind.wrap .u64 k=k:=Y4 (by omega) (by omega)
 have hp:(2:Int)^(16-k).toNat < 2^62:=by
  have:=ZgW (m:=(16-k).toNat) (n:=16) (by omega)
  have e:(2:Int)^16=65536:=by decide
  have e:(2:Int)^62=4611686018427387904:=by decide
  omega
 have hp1:=JS (16-k).toNat
 rw [e1,e2,w1,w2,Zk6 (by omega)]
 refine Zi (by omega) (Zd (place a _ (by omega) hp) fun q hq=>Zi (by omega) (Zh ⟨k,q,?_,by omega,by omega,hq.1,hq.2⟩))
 have hm:q*2^k.toNat < 2^63:=by
  have h1:q*2^k.toNat≤2^(16-k).toNat*2^k.toNat:=Int.mul_le_mul_of_nonneg_right (by omega) (by have:=JS k.toNat;omega)
  rw [← Int.pow_add,show (16-k).toNat+k.toNat=16 by omega] at h1
  have e:(2:Int)^16=65536:=by decide
  have e:(2:Int)^63=9223372036854775808:=by decide
  omega
 rw [ZmK (by omega) (by omega) hq.1 hm]
theorem s37 (a b:Int):Ret (fun r=>∃ c:Cap,r=Zk5 c∧Kn c=true) (g37 a b):=by
 rw [Zm7]
 refine Zd (s63 a b) fun r ⟨k,q,hr,h1,h2,h3,h4⟩=>?_
 subst hr
 refine Zh ⟨⟨1,q*2^k.toNat,k,7,0,0,false⟩,rfl,?_⟩
 have hm:(q+1)*2^k.toNat≤65536:=by
  have h5:(q+1)*2^k.toNat≤2^(16-k).toNat*2^k.toNat:=Int.mul_le_mul_of_nonneg_right (by omega) (by have:=JS k.toNat;omega)
  rw [← Int.pow_add,show (16-k).toNat+k.toNat=16 by omega] at h5
  have e:(2:Int)^16=65536:=by decide
  omega
 rw [Int.add_mul,Int.one_mul] at hm
 have h6:0≤q*2^k.toNat:=Int.mul_nonneg h3 (by have:=JS k.toNat;omega)
 have h7:q*2^k.toNat % 2^k.toNat=0:=Int.mul_emod_left ..
 simp [Kn,Kg,Yf,h6,h7]
 omega
theorem Zi3 (c:Cap) (obj bits level width off cnt:Int):∃ cs:List Cap,YK c obj bits level width off cnt=cs.map Zir∧(cs.length:Int)≤max 0 cnt:=by
 unfold YK
 split
 ·refine ⟨(List.range cnt.toNat).map fun (j:Nat)=>⟨obj,c.base+off+(j:Int)*2^bits.toNat,bits,c.rights,if obj=3 then width else 0,if obj=3 then level else 0,c.device⟩,?_,by simp;omega⟩
  rw [List.map_map];rfl
 ·exact ⟨[],rfl,by simp;omega⟩
theorem l38 (rec0:List V→Option Bool) (l:List ZP) (hn:l.length < 2^63) (cs:List Cap) (m i:Nat) (hi:i < cs.length) (ih':Ret (fun _=>True) (rec0 [.l (l.map Zm),.l (cs.map Zir),.i (Zb0 l.length m),.i (iop .add .i64 (i:Int) 1)])) :
  Ret (fun _=>True) (Zas rec0 Z2 (l.map Zm) (cs.map Zir) (Zb0 l.length m) (i:Int) 0):=by
 refine KP (P:=fun _=>True) (F:=fun k2 (_:Unit) z=>Zas rec0 k2 (l.map Zm) (cs.map Zir) (Zb0 l.length m) (i:Int) z) (n:=l.length) (fun _ _=>True) hn (fun k2 t _ ht _ ih2=>?_) (fun k2 _ _=>?_) () trivial
 ·show Ret _ (Zas _ (k2+1) _ _ _ _ _)
  rw [Zft,List.length_map,if_pos (YY ht)]
  refine Ju (Zx ht _) ?_
  simp only [Yd,d2,d4,d8,d16]
  have nxt:Ret (fun _=>True) (Zas rec0 k2 (l.map Zm) (cs.map Zir) (Zb0 l.length m) (i:Int) (iop .add .i64 (t:Int) 1)):=by rw [YP ht hn];exact ih2 () trivial
  refine Zj (fun h1=>?_) fun h1=>?_
  ·rw [Zfi,decide_eq_true_eq] at h1
   refine Zj (fun h2=>?_) fun h2=>?_
   ·rw [s50,Option.bind_some]
    refine Ju (congrArg (fun z=>Zq (l.map Zm) z _ _) (Zcy h1)) ?_
    refine Ju (Zx h1 _) ?_
    simp only [Yd,d2,d4,d8,d16]
    rw [s50,Option.bind_some,s65,Option.bind_some,Option.bind_some]
    refine Ju (VW hi _) ?_
    simp only [Zk5]
    rw [s50,Option.bind_some,s66,Option.bind_some]
    exact Zj (fun _=>Zj (fun _=>Zh trivial) fun _=>nxt) fun _=>nxt
   ·rw [s50,Option.bind_some]
    refine Ju (VW hi _) ?_
    simp only [Zk5]
    rw [s50,Option.bind_some,s66,Option.bind_some]
    exact Zj (fun _=>Zh trivial) fun _=>nxt
  ·rw [s50,Option.bind_some]
   refine Ju (VW hi _) ?_
   simp only [Zk5]
   rw [s50,Option.bind_some,s66,Option.bind_some]
   exact Zj (fun _=>Zh trivial) fun _=>nxt
 ·show Ret _ (Zas _ (k2+1) _ _ _ _ _)
  rw [Zft,List.length_map,if_neg (YU (Nat.le_refl _))]
  exact ih'
theorem s38 (l:List ZP) (hn:l.length < 2^63) (j:Id) (cs:List Cap) (hc:cs.length < 2^63):Ret (fun _=>True) (g38 (l.map Zm) j.core j.op j.part (cs.map Zir)):=by
 rw [Zne,s64 l hn j,Option.bind_some]
 generalize hm:Yt (idE j) l=m
 refine KP (F:=fun k (_:Unit) z=>ZgL k (l.map Zm) (cs.map Zir) (Zb0 l.length m) z) (n:=cs.length) (fun _ _=>True) hc (fun k i _ hi _ ih=>?_) (fun k _ _=>?_) () trivial
 ·show Ret _ (ZgL (k+1) _ _ _ _)
  rw [ZfB,List.length_map,if_pos (YY hi)]
  exact l38 _ l hn cs m i hi (by rw [YP hi hc];exact ih () trivial)
 ·show Ret _ (ZgL (k+1) _ _ _ _)
  rw [ZfB,List.length_map,if_neg (YU (Nat.le_refl _))]
  exact Zh trivial
structure EOk (e:ZP):Prop where
 c0:0≤e.core
 c1:e.core < 4
 s0:0≤e.slot
 s1:e.slot < 16
 ic:e.node.id.core=e.core
 o1:1≤e.node.id.op
 o2:e.node.id.op≤40
 p0:0≤e.node.id.part
 p1:e.node.id.part < 3
 ok:Yh e.node=true
structure FOk (l:List ZP) (n:Nat):Prop where
 len:l.length≤n
 all:∀ e∈l,EOk e
 asc:l.Pairwise fun a b=>lte a b=true
theorem JR {n:Vn} (h:Yh n=true):ZdK n.id=true∧Kn n.cap=true∧n.path.length≤8∧(List.range n.path.length).all (VJ n)=true:=by
 simp only [Yh,Bool.and_eq_true,decide_eq_true_eq] at h
 exact ⟨h.1.1.1,h.1.1.2,h.1.2,h.2⟩
theorem FOk.few {l:List ZP} {n:Nat} (h:FOk l n) (hn:n≤100):Zld l:=⟨by have:=h.len;omega,fun e he=>by have:=(JR (h.all e he).ok).2.2.1;omega⟩
theorem Zds {a b:ZP} : lte a b=true↔(a.node.id.core < b.node.id.core∨(a.node.id.core=b.node.id.core∧(a.node.id.op < b.node.id.op∨(a.node.id.op=b.node.id.op∧a.node.id.part < b.node.id.part)))):=by simp [lte,Zno,Znx]
theorem Zhr {a b c:ZP} (h1:lte a b=true) (h2:lte b c=true):lte a c=true:=by
 rw [Zds] at *; omega
theorem Zhd {a b:ZP} (h:lte a b=false) (hne:a.node.id≠b.node.id):lte b a=true:=by
 rw [← Bool.not_eq_true,Zds] at h
 rw [Zds]
 have:¬ (a.node.id.core=b.node.id.core∧a.node.id.op=b.node.id.op∧a.node.id.part=b.node.id.part):=fun ⟨e1,e2,e3⟩=>hne (by cases ha:a.node.id;cases hb:b.node.id;simp_all)
 omega
theorem ZjD {l m:List ZP} {x:ZP} (h:l.Pairwise fun a b=>lte a b=true) (ha:ZlB l x m):m.Pairwise fun a b=>lte a b=true:=by
 obtain ⟨i,hi,hlo,hhi,hid,_,rfl⟩:=ha
 have hge:∀ j (hj:j < l.length),i≤j→lte x l[j]=true:=by
  intro j hj hij
  have h1:lte x (l[i]'(by omega))=true:=hhi (by omega)
  by_cases hji:j=i
  ·subst hji;exact h1
  ·exact Zhr h1 (List.pairwise_iff_getElem.1 h i j (by omega) hj (by omega))
 rw [List.pairwise_append,List.pairwise_append]
 refine ⟨⟨h.take,List.pairwise_singleton ..,fun a ha b hb=>?_⟩,h.drop,fun a ha b hb=>?_⟩
 ·rw [List.mem_singleton] at hb
  subst hb
  obtain ⟨j,hj,rfl⟩:=List.getElem_of_mem ha
  rw [List.length_take] at hj
  rw [List.getElem_take]
  refine Zhd (hlo j (by omega) (by omega)) fun he=>?_
  rw [List.any_eq_false] at hid
  have:=hid _ (List.getElem_mem (show j < l.length by omega))
  rw [idE,decide_eq_true_eq] at this
  exact this he.symm
 ·obtain ⟨k,hk,rfl⟩:=List.getElem_of_mem hb
  rw [List.length_drop] at hk
  rw [List.getElem_drop]
  rw [List.mem_append,List.mem_singleton] at ha
  rcases ha with ha | rfl
  ·obtain ⟨j,hj,rfl⟩:=List.getElem_of_mem ha
   rw [List.length_take] at hj
   rw [List.getElem_take]
   exact List.pairwise_iff_getElem.1 h j (i+k) (by omega) (by omega) (by omega)
  ·exact hge (i+k) (by omega) (by omega)
theorem Zhz {l m:List ZP} {x:ZP} {n:Nat} (h:FOk l n) (hx:EOk x) (ha:m=l∨ZlB l x m):FOk m (n+1):=by
 rcases ha with rfl | ha
 ·exact ⟨by have:=h.len;omega,h.all,h.asc⟩
 ·have hasc:=ZjD h.asc ha
  obtain ⟨i,hi,_,_,_,_,rfl⟩:=ha
  refine ⟨by have:=h.len;simp;omega,fun e he=>?_,hasc⟩
  simp only [List.mem_append,List.mem_singleton] at he
  rcases he with (he | rfl) | he
  ·exact h.all e (List.mem_of_mem_take he)
  ·exact hx
  ·exact h.all e (List.mem_of_mem_drop he)
theorem ZkG (i:Id) (c:Cap) (hi:ZdK i=true) (hc:Kn c=true):Yh ⟨i,[],c⟩=true:=by simp [Yh,hi,hc]
theorem ZeH {s:Vn} {i:Id} {c:Cap} (h:Zhe s i c):Yh (ZaG s i c)=true:=by
 obtain ⟨k1,k2,k3,k4⟩:=JR h.src
 have hr:=h.room
 simp only [Yh,ZaG,Bool.and_eq_true,decide_eq_true_eq,h.id,h.cap,true_and,List.length_append,List.length_cons,List.length_nil]
 refine ⟨by omega,?_⟩
 rw [List.all_eq_true] at k4 ⊢
 intro j hj
 rw [List.mem_range] at hj
 by_cases hjl:j < s.path.length
 ·have:=k4 j (List.mem_range.2 hjl)
  simp only [VJ,List.getElem?_eq_getElem hjl] at this
  simp only [VJ,List.getElem?_append_left hjl,List.getElem?_eq_getElem hjl,List.take_append_of_le_length (Nat.le_of_lt hjl)]
  simp only [Bool.and_eq_true,decide_eq_true_eq] at this ⊢
  refine ⟨⟨this.1.1,fun he=>?_⟩,this.2⟩
  have hf:=h.fresh
  rw [← he] at hf
  simp at hf
 ·have hje:j=s.path.length:=by omega
  subst hje
  simp only [VJ,List.getElem?_append_right (Nat.le_refl _),Nat.sub_self,List.getElem?_cons_zero,List.take_left]
  simp only [Bool.and_eq_true,decide_eq_true_eq]
  refine ⟨⟨k1,fun he=>h.ne he.symm⟩,?_⟩
  rw [Bool.not_eq_true',← Bool.not_eq_true,List.contains_iff_mem]
  intro hm
  obtain ⟨t,ht,hte⟩:=List.getElem_of_mem hm
  have:=k4 t (List.mem_range.2 ht)
  simp only [VJ,List.getElem?_eq_getElem ht,hte] at this
  simp at this
theorem l22 (src:Vn) (hs:src.path.length≤20) (root:Bool) (op core slot:Int) (hc0:0≤core) (hc1:core < 4) (hs0:0≤slot) (hs1:slot < 8) (h1:1≤op) (h2:op≤40) (cs:List Cap) (hcs:cs.length≤3) (l:List ZP) (n:Nat) (hn:n≤60) (h:FOk l n) :
  Ret (fun r=>∃ m,FOk m (n+3)∧r=m.map Zm) (ZdG Z2 (l.map Zm) op core slot src.id.core src.id.op src.id.part (Zf src.path) src.cap.kind src.cap.base src.cap.bits src.cap.rights src.cap.width src.cap.level src.cap.device (cs.map Zir) 0):=by
 refine KP (F:=fun k (s:LL) z=>ZdG k s op core slot src.id.core src.id.op src.id.part (Zf src.path) src.cap.kind src.cap.base src.cap.bits src.cap.rights src.cap.width src.cap.level src.cap.device (cs.map Zir) z) (n:=cs.length) (fun i s=>∃ m,FOk m (n+i)∧s=m.map Zm) (by omega) (fun k i s hi hj ih=>?_) (fun k s hj=>?_) _ ⟨l,h,rfl⟩
 ·obtain ⟨m,hm,rfl⟩:=hj
  show Ret _ (ZdG (k+1) _ _ _ _ _ _ _ _ _ _ _ _ _ _ _ _ _)
  rw [Zfl,List.length_map,if_pos (YY hi)]
  refine Ju (VW hi _) ?_
  simp only [Zk5]
  refine Zd (s42 src hs ⟨core,op,(i:Int)⟩ cs[i]) fun r hr=>?_
  rcases hr with ⟨e,he,rfl⟩ | ⟨hk,rfl⟩
  ·refine Zj (fun _=>Zh ⟨m,⟨by have:=hm.len;omega,hm.all,hm.asc⟩,rfl⟩) fun hh=>?_
   simp only [CQ] at hh
   exact absurd hh (by omega)
  ·refine Zj (fun hh=>absurd hh (by simp [cop])) fun _=>?_
   have ho:=JR (ZeH hk)
   have hx:EOk ⟨core,slot+i,ZaG src ⟨core,op,(i:Int)⟩ cs[i]⟩:=⟨hc0,hc1,by show 0≤slot+i;omega,by show slot+i < 16;omega,rfl,h1,h2,by show (0:Int)≤i;omega,by show (i:Int) < 3;omega,ZeH hk⟩
   have ea:iop .add .i64 slot (i:Int)=slot+i:=Jp (by omega) (by omega)
   rw [ea]
   refine Zd (s39 m (hm.few (by omega)) ⟨core,slot+i,ZaG src ⟨core,op,(i:Int)⟩ cs[i]⟩ (by have:=ho.2.2.1;show (ZaG src ⟨core,op,(i:Int)⟩ cs[i]).path.length≤20;omega)) fun r ⟨m',hm',hr⟩=>?_
   subst hr
   rw [YP hi (by omega)]
   exact ih _ ⟨m',Zhz hm hx hm',rfl⟩
 ·obtain ⟨m,hm,rfl⟩:=hj
  show Ret _ (ZdG (k+1) _ _ _ _ _ _ _ _ _ _ _ _ _ _ _ _ _)
  rw [Zfl,List.length_map,if_neg (YU (Nat.le_refl _))]
  exact Zh ⟨m,⟨by have:=hm.len;omega,hm.all,hm.asc⟩,rfl⟩
theorem Zop (l:List ZP) (n:Nat) (hn:n≤60) (h:FOk l n) (core slot op base bits:Int) (hc0:0≤core) (hc1:core < 4) (hs0:0≤slot) (hs1:slot < 8) (h1:1≤op) (h2:op≤40) :
    Ret (fun r=>∃ m,FOk m (n+3)∧r=m.map Zm) ((g37 base bits).bind fun r14=>
 (g38 (l.map Zm) 0 0 0 (E0++[[I r14.1,I r14.2.1,I r14.2.2.1,I r14.2.2.2.1,I r14.2.2.2.2.1,I r14.2.2.2.2.2.1,AV.val (.bool r14.2.2.2.2.2.2)]])).bind fun (r21:Bool)=>
 if r21=true then some (l.map Zm) else
 (g39 (l.map Zm) core slot core op 0 E0 r14.1 r14.2.1 r14.2.2.1 r14.2.2.2.1 r14.2.2.2.2.1 r14.2.2.2.2.2.1 r14.2.2.2.2.2.2).bind fun (r22:LL)=>some (r22)):=by
  refine Zd (s37 base bits) fun r ⟨c,hr,hc⟩=>?_
  subst hr
  have hl:=h.len
  refine Zd (s38 l (by omega) ⟨0,0,0⟩ [c] (by simp)) fun b _=>?_
  refine Zj (fun _=>Zh ⟨l,⟨by omega,h.all,h.asc⟩,rfl⟩) fun _=>?_
  have hi:ZdK ⟨core,op,0⟩=true:=by simp [ZdK];omega
  have hx:EOk ⟨core,slot,⟨⟨core,op,0⟩,[],c⟩⟩:=⟨hc0,hc1,hs0,by show slot < 16;omega,rfl,h1,h2,Int.le_refl _,by show (0:Int) < 3;omega,ZkG _ _ hi hc⟩
  refine Zd (s39 l (h.few (by omega)) ⟨core,slot,⟨⟨core,op,0⟩,[],c⟩⟩ (by simp)) fun r ⟨m',hm',hr⟩=>?_
  subst hr
  have:=Zhz h hx hm'
  exact Zh ⟨m',⟨by have:=this.len;omega,this.all,this.asc⟩,rfl⟩
theorem s22 (l:List ZP) (n:Nat) (hn:n≤60) (h:FOk l n) (root copy:Bool) (src core slot kind base bits count rights op:Int) (h1:1≤op) (h2:op≤40) :
  Ret (fun r=>∃ m,FOk m (n+3)∧r=m.map Zm) (g22 (l.map Zm) root src core slot kind base bits count rights copy op):=by
 have hl:=h.len
 rw [ZlK]
 refine Zd (place core 4 (by omega) (by omega)) fun c hc=>Zd (place slot 8 (by omega) (by omega)) fun s hs=>?_
 refine Zj (fun _=>Zop l n hn h c s op base bits hc.1 hc.2 hs.1 hs.2 h1 h2) fun _=>?_
 refine Zj (fun _=>Zop l n hn h c s op base bits hc.1 hc.2 hs.1 hs.2 h1 h2) fun h3=>?_
 simp only [CQ,List.length_map] at h3
 rw [List.length_map]
 refine Zd (place src _ (by omega) (by omega)) fun i hi=>?_
 have hil:i.toNat < l.length:=by omega
 refine Kt hi.1 hil ?_
 simp only [Yd,d2,d4,d8,d16]
 have he:=h.all _ (List.getElem_mem hil)
 have ho:=JR he.ok
 generalize l[i.toNat]=e at he ho
 refine Zd (place rights 8 (by omega) (by omega)) fun r28 _=>?_
 rw [s40,Option.bind_some]
 refine Zj (fun _=>?_) fun _=>?_
 ·refine Zd (place kind 6 (by omega) (by omega)) fun r36 h36=>Zd (place bits 10 (by omega) (by omega)) fun r37 h37=>?_
  have e1:iop .add .i64 6 r37=6+r37:=Jp (by omega) (by omega)
  have e2:iop .sub .i64 (iop .add .i64 1 r36) 1=r36:=by rw [Jp (by omega) (by omega),ZdM (by omega) (by omega)];omega
  rw [e1,e2]
  refine YL (l:=[6+r37,12,12,6,10,16]) h36.1 (by simp;omega) ?_
  have hb:∀ x∈[6+r37,12,12,6,10,16],0≤x∧x≤16:=by
   intro x hx
   simp only [List.mem_cons,List.not_mem_nil,or_false] at hx
   omega
  have hb':=hb _ (List.getElem_mem (show r36.toNat < [6+r37,12,12,6,10,16].length by simp;omega))
  generalize [6+r37,12,12,6,10,16][r36.toNat]'(by simp;omega)=r38 at hb'
  refine Zd (place rights 2 (by omega) (by omega)) fun r39 _=>Zd (place base 8 (by omega) (by omega)) fun r40 _=>?_
  refine Zi (by rw [Y4 (by omega) (by omega)];omega) (Zd (place count 3 (by omega) (by omega)) fun r41 h41=>?_)
  rw [s41,Option.bind_some]
  refine Zj (fun _=>Zh ⟨l,⟨by omega,h.all,h.asc⟩,rfl⟩) fun _=>?_
  obtain ⟨cs,hcs,hcl⟩:=Zi3 ⟨e.node.cap.kind,e.node.cap.base,e.node.cap.bits,e.node.cap.rights,e.node.cap.width,e.node.cap.level,e.node.cap.device⟩ (iop .add .i64 1 r36) r38 r39 32 (iop .shl .i64 r40 (IntKind.wrap .u64 r38)) (iop .add .i64 1 r41)
  rw [hcs]
  have e3:iop .add .i64 1 r41=1+r41:=Jp (by omega) (by omega)
  rw [e3] at hcl
  refine Zd (s38 l (by omega) e.node.id cs (by omega)) fun b _=>?_
  refine Zj (fun _=>Zh ⟨l,⟨by omega,h.all,h.asc⟩,rfl⟩) fun _=>?_
  exact l22 e.node (by omega) true op c s hc.1 hc.2 hs.1 hs.2 h1 h2 cs (by omega) l n hn h
 ·exact l22 e.node (by omega) true op c s hc.1 hc.2 hs.1 hs.2 h1 h2 [⟨e.node.cap.kind,e.node.cap.base,e.node.cap.bits,iop .and .i64 e.node.cap.rights r28,e.node.cap.width,e.node.cap.level,e.node.cap.device⟩] (by simp) l n hn h
def ZkH (s:ZkQ):Bool×Int×Int×Int×Int×Int×Int×Int×Int×Bool:=(s.root,s.src,s.core,s.slot,s.kind,s.base,s.bits,s.count,s.rights,s.copy)
theorem Zgn {γ:Type} {l:List ZkQ} {i:Nat} (h:i < l.length) (k:(Bool×Int×Int×Int×Int×Int×Int×Int×Int×Bool)→Option γ):Zq (l.map Wj) (i:Int) [.bool,.int .i64,.int .i64,.int .i64,.int .i64,.int .i64,.int .i64,.int .i64,.int .i64,.bool] k=k (ZkH l[i]):=Y0 (f:=Wj) (sh:=[.bool,.int .i64,.int .i64,.int .i64,.int .i64,.int .i64,.int .i64,.int .i64,.int .i64,.bool]) (v:=ZkH) (fun _=>rfl) h k
theorem s8 (l:List ZkQ) (hn:l.length < 2^63):Ret (fun r=>∃ m,FOk m 30∧r=m.map Zm) (g8 (l.map Wj)):=by
 rw [ZnR]
 have key:∀ (d i fuel:Nat) (m:List ZP),i+d=41→d < fuel→FOk m 30→Ret (fun r=>∃ m,FOk m 30∧r=m.map Zm) (Zns fuel (l.map Wj) (m.map Zm) (i:Int)):=by
  intro d
  induction d with
  | zero =>
   intro i fuel m hi hf hm
   obtain ⟨q,rfl⟩:∃ q,fuel=q+1:=⟨fuel-1,by omega⟩
   rw [Zio]
   refine Zj (fun _=>?_) fun _=>Zh ⟨m,hm,rfl⟩
   rw [if_neg (by simp only [CQ];omega)]
   exact Zh ⟨m,hm,rfl⟩
  | succ d ih =>
   intro i fuel m hi hf hm
   obtain ⟨q,rfl⟩:∃ q,fuel=q+1:=⟨fuel-1,by omega⟩
   rw [Zio]
   refine Zj (fun h1=>?_) fun _=>Zh ⟨m,hm,rfl⟩
   refine Zj (fun h2=>?_) fun _=>Zh ⟨m,hm,rfl⟩
   refine Zj (fun h3=>?_) fun _=>Zh ⟨m,hm,rfl⟩
   simp only [CQ,List.length_map] at h1 h2 h3
   have hil:i < l.length:=by omega
   refine Ju (Zgn hil _) ?_
   simp only [ZkH]
   have e:iop .add .i64 (i:Int) 1=((i+1:Nat):Int):=YP hil hn
   rw [e]
   refine Zd (s22 m 27 (by omega) ⟨by omega,hm.all,hm.asc⟩ _ _ _ _ _ _ _ _ _ _ _ (by omega) (by omega)) fun r ⟨m',hm',hr⟩=>?_
   subst hr
   exact ih (i+1) q m' (by omega) (by omega) hm'
 exact key 41 0 Z2 [] rfl (by have:=@ZbH 41 (by omega);omega) ⟨by simp,by simp,List.Pairwise.nil⟩
end Go.Proofs.YtmjkdbpffdampaaGreat
end

section
namespace Go.Proofs.YtmjkdbpffdampaaGreat
open Go Go.AM
set_option linter.unusedSimpArgs false
set_option linter.unusedVariables false
set_option maxRecDepth 100000
structure SOk (l:List ZP) (s:List Jt):Prop where
 len:s.length=12
 spot:∀ t (h:t < s.length),s[t].op=0∧s[t].lock=zid∧(s[t].node=JW∨∃ e∈l,e.slot=(t:Int)∧s[t].node=e.node)
theorem SOk.all {l:List ZP} {s:List Jt} (h:SOk l s):∀ x∈s,x.op=0∧x.lock=zid∧(x.node=JW∨∃ e∈l,x.node=e.node):=by
 intro x hx
 obtain ⟨t,ht,rfl⟩:=List.getElem_of_mem hx
 obtain ⟨h1,h2,h3⟩:=h.spot t ht
 exact ⟨h1,h2,h3.imp id fun ⟨e,he,_,hn⟩=>⟨e,he,hn⟩⟩
theorem SOk.few {l:List ZP} {s:List Jt} {n:Nat} (h:SOk l s) (hf:FOk l n):ZgG s:=by
 refine ⟨by have:=h.len;omega,fun x hx=>?_⟩
 rcases (h.all x hx).2.2 with e | ⟨e,he,hne⟩
 ·rw [e];simp [JW]
 ·have:=(JR (hf.all e he).ok).2.2.1
  rw [hne];omega
theorem s15 (l:List ZP) (n:Nat) (hn:n≤60) (hf:FOk l n) (c:Int):Ret (fun r=>∃ s,SOk l s∧r=s.map Z9) (g15 (l.map Zm) c):=by
 have hl:=hf.len
 rw [Znb]
 refine Zi (by decide) (Zi (by decide) (Zi (by decide) ?_))
 refine KP (F:=fun k (s:LL) z=>ZcA k (l.map Zm) c s z) (n:=l.length) (fun i s=>∃ s',SOk l s'∧s=s'.map Z9) (by omega) (fun k i s hi hj ih=>?_) (fun k s hj=>?_) _ ⟨List.replicate 12 ⟨JW,0,zid⟩,⟨rfl,fun t ht=>?_⟩,rfl⟩
 ·obtain ⟨s,hs,rfl⟩:=hj
  show Ret _ (ZcA (k+1) _ _ _ _)
  rw [ZeY,List.length_map,if_pos (YY hi)]
  refine Ju (Zx hi _) ?_
  simp only [Yd,d2,d4,d8,d16]
  have nxt:Ret (fun r=>∃ s,SOk l s∧r=s.map Z9) (ZcA k (l.map Zm) c (s.map Z9) (iop .add .i64 (i:Int) 1)):=by rw [YP hi (by omega)];exact ih _ ⟨s,hs,rfl⟩
  refine Zj (fun _=>?_) fun _=>nxt
  refine Ju (Zx hi _) ?_
  simp only [Yd,d2,d4,d8,d16]
  refine Zj (fun h1=>?_) fun _=>nxt
  simp only [CQ] at h1
  refine Ju (Zx hi _) ?_
  simp only [Yd,d2,d4,d8,d16]
  refine Ju (Zx hi _) ?_
  simp only [Yd,d2,d4,d8,d16]
  have he:=hf.all _ (List.getElem_mem hi)
  have hp:=(JR he.ok).2.2.1
  rw [s36 l[i].node (by omega),Option.bind_some]
  have h0:=he.s0
  have hsl:=hs.len
  refine Zi (by omega) (Zi (by rw [List.length_map];omega) (Zi (by omega) (Zi (by rw [List.length_map];omega) ?_)))
  rw [YP hi (by omega)]
  refine ih _ ⟨s.modify l[i].slot.toNat (Zoa l[i].node),⟨by rw [List.length_modify];exact hsl,fun t ht=>?_⟩,ZiN s _ l[i].node⟩
  rw [List.length_modify] at ht
  rw [List.getElem_modify]
  have ha:=hs.spot t ht
  split
  ·exact ⟨ha.1,ha.2.1,.inr ⟨l[i],List.getElem_mem hi,by omega,rfl⟩⟩
  ·exact ha
 ·obtain ⟨s,hs,rfl⟩:=hj
  show Ret _ (ZcA (k+1) _ _ _ _)
  rw [ZeY,List.length_map,if_neg (YU (Nat.le_refl _))]
  exact Zh ⟨s,hs,rfl⟩
 ·rw [List.getElem_replicate]
  exact ⟨rfl,rfl,.inl rfl⟩
end Go.Proofs.YtmjkdbpffdampaaGreat
end

section
namespace Go.Proofs.YtmjkdbpffdampaaGreat
open Go Go.AM
set_option linter.unusedSimpArgs false
set_option linter.unusedVariables false
set_option maxRecDepth 100000
theorem Zci {α:Type} (lt:α→α→Bool) (l:List α):Ze0 lt l=true↔∀ j (h:j+1 < l.length),lt l[j] l[j+1]=true:=by
 rw [Ze0,List.all_eq_true]
 constructor
 ·intro h j hj
  have:=h (j+1) (by rw [List.mem_range'_1];omega)
  rw [ZhN lt hj] at this
  exact this
 ·intro h i hi
  rw [List.mem_range'_1] at hi
  match i with
  | 0 => rfl
  | j + 1 => rw [ZhN lt (by omega)]; exact h j (by omega)
theorem ZiK {α:Type} {lt:α→α→Bool} {l:List α} {a:α} (h:Ze0 lt l=true) (ha:∀ h:0 < l.length,lt (l[l.length-1]'(by omega)) a=true):Ze0 lt (l++[a])=true:=by
 rw [Zci] at h ⊢
 intro j hj
 rw [List.length_append,List.length_cons,List.length_nil] at hj
 by_cases hjl:j+1 < l.length
 ·rw [List.getElem_append_left (by omega),List.getElem_append_left hjl]
  exact h j hjl
 ·have e:j=l.length-1:=by omega
  subst e
  rw [List.getElem_append_left (by omega),List.getElem_append_right (by omega)]
  have:=ha (by omega)
  simpa using this
theorem ZjE {α:Type} {lt:α→α→Bool} {l:List α} (h:l.Pairwise fun a b=>lt a b=true):Ze0 lt l=true:=by
 rw [Zci]
 intro j hj
 exact List.pairwise_iff_getElem.1 h j (j+1) (by omega) hj (by omega)
theorem WP {α:Type} (f:α→List AV) (l:List α) (a:α):l.map f++(E0++[f a])=(l++[a]).map f:=by simp
theorem KM {α:Type} {P:α→Prop} {l:List α} {a:α} (h:∀ x∈l,P x) (ha:P a):∀ x∈l++[a],P x:=by
 intro x hx
 simp only [List.mem_append,List.mem_singleton] at hx
 rcases hx with hx | rfl
 ·exact h x hx
 ·exact ha
theorem Yz {σ γ:Type} {P:γ→Prop} {F:Nat→σ→Int→Option γ} (n:Nat) (J:Nat→σ→Prop) (hn:n < 1000)
  (step:∀ (k i:Nat) (s:σ),i≤n→J i s→(i < n→∀ s',J (i+1) s'→Ret P (F k s' ((i+1:Nat):Int)))→Ret P (F (k+1) s (i:Int))) (s:σ) (h:J 0 s):Ret P (F Z2 s 0):=by
 refine KP (F:=F) (n:=n) J (by omega) (fun k i s hi hj ih=>step k i s (by omega) hj fun _=>ih) (fun k s hj=>step k n s (Nat.le_refl _) hj fun h=>absurd h (Nat.lt_irrefl _)) s h
theorem Zeu {i n:Nat} (h:i≤n) (hn:n < 1000):iop .add .i64 (i:Int) 1=((i+1:Nat):Int):=by
 rw [Jp (by omega) (by omega)];omega
def Rng (z:Int):Prop:=-(2^63:Int)≤z∧z < 2^63
def Zf0 (c:Call):List Int:=[c.kind,c.slot,c.dest,c.core,c.mask,c.object,c.bits,c.level,c.offset,c.count,c.index,c.addr]
def RL (l:List Int):Prop:=∀ x∈l,Rng x
def ZmY (s:WC):Prop:=∀ q∈s.pending,∀ z∈Zf0 q.call,Rng z
theorem Za2 {z:Int} (h1:0≤z) (h2:z < 1000000):Rng z:=⟨by omega,by omega⟩
theorem ZgQ (l:List Int) (z:Int):Ret (fun v=>RL l→Rng v) (g16 (Ze l) z):=by
 rw [ZjP]
 refine Zj (fun _=>Zh fun _=>⟨by decide,by decide⟩) fun h1=>Zj (fun _=>Zh fun _=>⟨by decide,by decide⟩) fun h2=>?_
 simp only [CQ,ZQ] at h1 h2
 have e:z=((z.toNat:Nat):Int):=by omega
 have hl:z.toNat < l.length:=by omega
 have:=Jl (γ:=Int) hl (fun r=>some r)
 rw [← e] at this
 exact Ju this (Zh fun h=>h _ (List.getElem_mem hl))
structure Zn3 (i:Id):Prop where
 c0:0≤i.core
 c1:i.core < 4
 o0:1≤i.op
 o1:i.op≤20
 p:i.part=0
theorem Zn3.ok {i:Id} (h:Zn3 i):Zit i=true:=by
 obtain ⟨h1,h2,h3,h4,h5⟩:=h
 simp only [Zit,ZdK,Bool.and_eq_true,decide_eq_true_eq]
 omega
theorem s18 (x:Int):Ret (fun r=>∃ i:Id,r=(i.core,i.op,i.part)∧Zn3 i) (g18 x):=by
 rw [ZmX]
 refine Zd (place x 4 (by omega) (by omega)) fun a ha=>Zi (by omega) (Zd (place _ 20 (by omega) (by omega)) fun b hb=>?_)
 have e:iop .add .i64 1 b=1+b:=Jp (by omega) (by omega)
 rw [e]
 exact Zh ⟨⟨a,1+b,0⟩,rfl,⟨ha.1,ha.2,by show 1≤1+b;omega,by show 1+b≤20;omega,rfl⟩⟩
theorem s20 (l:List Int) (z:Int) (hz:0≤z):Ret (fun r=>∃ m:List Int,r=Ze m∧m.length≤l.length∧(RL l→RL m)) (g20 (Ze l) z):=by
 rw [Zl0,ZQ]
 refine Zj (fun _=>Zh ⟨[],rfl,by simp,fun _ x hx=>by cases hx⟩) fun h=>?_
 simp only [CQ] at h
 refine Zi hz (Zi (by omega) (Zh ⟨l.drop z.toNat,?_,by simp,fun h x hx=>h x (List.mem_of_mem_drop hx)⟩))
 exact (List.map_drop ..).symm
theorem Zbr {γ:Type} {P:γ→Prop} {a b z:Int} {k:Int→Option γ} (h0:0≤z) (h:z < 2) (hk:∀ x,x=a∨x=b→Ret P (k x)):Ret P (Zq ((E0++[[I a]])++[[I b]]) z [.int .i64] k):=
 YL (l:=[a,b]) h0 (by simp;omega) (hk _ (by rcases (by omega:z=0∨z=1) with rfl | rfl<;>simp))
theorem Zh0:Zcf JW JW=true:=by kernel_rfl
theorem s19 (l:List Int) (n:Vn) (hn:Yh n=true) (hp:n.path.length≤20):Ret (fun r=>∃ q:Req,r=Zov q∧(q.src.path.length≤20∧q.call.dest < 8)∧Zel q=true∧(RL l→∀ z∈Zf0 q.call,Rng z)) (g19 (Ze l) n.id.core n.id.op n.id.part (Zf n.path) n.cap.kind n.cap.base n.cap.bits n.cap.rights n.cap.width n.cap.level n.cap.device):=by
 rw [Zm1]
 refine Zd (Jb l 0) fun _ _=>Zd (s18 _) fun r ⟨i,hi,hio⟩=>?_
 subst hi
 refine Zd (Jb l 1) fun _ _=>Zd (place _ 3 (by omega) (by omega)) fun rg hrg=>?_
 refine Zd (Jb l 2) fun _ _=>Zd (place _ 2 (by omega) (by omega)) fun _ h2=>?_
 refine Zbr h2.1 h2.2 fun w hw=>?_
 rw [s36 n (by omega),Option.bind_some]
 refine Zd (Jb l 3) fun _ _=>Zd (place _ 6 (by omega) (by omega)) fun kd hkd=>?_
 refine Zd (Jb l 4) fun _ _=>Zd (place _ 8 (by omega) (by omega)) fun v4 h4=>?_
 refine Zd (Jb l 5) fun _ _=>Zd (place _ 8 (by omega) (by omega)) fun v5 hde=>?_
 refine Zd (Jb l 6) fun _ _=>Zd (place _ 4 (by omega) (by omega)) fun v6 h6=>?_
 refine Zd (Jb l 7) fun _ _=>Zd (place _ 8 (by omega) (by omega)) fun v7 h7=>?_
 refine Zd (Jb l 8) fun _ _=>Zd (place _ 6 (by omega) (by omega)) fun v8 h8=>?_
 refine Zd (Jb l 9) fun _ _=>Zd (place _ 3 (by omega) (by omega)) fun v9 h9=>?_
 refine Zd (Jb l 10) fun _ _=>Zd (place _ 2 (by omega) (by omega)) fun v10 h10=>?_
 refine Zd (Jb l 11) fun _ _=>Zd (place _ 8 (by omega) (by omega)) fun v11 h11=>Zi (by omega) ?_
 refine Zd (Jb l 12) fun _ _=>Zd (place _ 3 (by omega) (by omega)) fun v12 h12=>?_
 refine Zd (ZgQ l 13) fun v13 h13=>Zd (ZgQ l 14) fun v14 h14=>?_
 have e8:iop .add .i64 1 v8=1+v8:=Jp (by omega) (by omega)
 have e9:iop .add .i64 12 v9=12+v9:=Jp (by omega) (by omega)
 have e12:iop .add .i64 1 v12=1+v12:=Jp (by omega) (by omega)
 have e11:iop .shl .i64 v11 12=v11*4096:=ZmK (by omega) (by omega) (by omega) (by show v11*2^12 < 2^63;omega)
 rw [e8,e9,e11,e12]
 have hcall:RL l→∀ z∈Zf0 ⟨1+kd,v4,v5,v6,v7,1+v8,12+v9,v10,v11*4096,1+v12,v13,v14⟩,Rng z:=by
  intro hl z hz
  simp only [Zf0,List.mem_cons,List.not_mem_nil,or_false] at hz
  rcases hz with rfl | rfl | rfl | rfl | rfl | rfl | rfl | rfl | rfl | rfl | rfl | rfl
  ·exact Za2 (by omega) (by omega)
  ·exact Za2 (by omega) (by omega)
  ·exact Za2 (by omega) (by omega)
  ·exact Za2 (by omega) (by omega)
  ·exact Za2 (by omega) (by omega)
  ·exact Za2 (by omega) (by omega)
  ·exact Za2 (by omega) (by omega)
  ·exact Za2 (by omega) (by omega)
  ·exact Za2 (by omega) (by omega)
  ·exact Za2 (by omega) (by omega)
  ·exact h13 hl
  ·exact h14 hl
 have ek:iop .add .i64 1 kd=1+kd:=Jp (by omega) (by omega)
 rw [ek]
 have hr:Zhf rg=true:=by simp only [Zhf,decide_eq_true_eq];omega
 refine Zj (fun h1=>Zh ⟨⟨i,⟨_,_,_,_,_,_,_,_,_,_,_,_⟩,_,_,JW⟩,rfl,⟨by simp [JW],hde.2⟩,?_,hcall⟩) fun h1=>Zh ⟨⟨i,⟨_,_,_,_,_,_,_,_,_,_,_,_⟩,_,_,n⟩,rfl,⟨hp,hde.2⟩,?_,hcall⟩
 ·simp only [CQ] at h1
  simp only [Zel,hio.ok,hr,h1,Zh0,Bool.and_eq_true,decide_eq_true_eq,if_true,true_and,and_true]
  exact ⟨by omega,hw⟩
 ·simp only [CQ] at h1
  simp only [Zel,hio.ok,hr,hn,if_neg h1,Bool.and_eq_true,decide_eq_true_eq,true_and,and_true]
  exact ⟨by omega,hw⟩
structure Zf3 (f:List ZP) (ss:List Jt):Prop where
 len:ss.length=12
 spot:∀ t (h:t < ss.length),(0≤ss[t].op∧ss[t].op≤20)∧((ss[t].node=JW∧ss[t].lock=zid)∨∃ e∈f,e.slot=(t:Int)∧ss[t].node=e.node∧(ss[t].lock=zid∨Zit ss[t].lock=true))
theorem SOk.slIn {f:List ZP} {s:List Jt} (h:SOk f s):Zf3 f s:=⟨h.len,fun t ht=>by
 obtain ⟨h1,h2,h3⟩:=h.spot t ht
 refine ⟨by omega,?_⟩
 rcases h3 with h3 | ⟨e,he,hs,hn⟩
 ·exact .inl ⟨h3,h2⟩
 ·exact .inr ⟨e,he,hs,hn,.inl h2⟩⟩
theorem Zlu {f:List ZP} {n:Nat} (hf:FOk f n) {a b:ZP} (ha:a∈f) (hb:b∈f) (h:a.node.id=b.node.id):a=b:=by
 obtain ⟨i,hi,rfl⟩:=List.getElem_of_mem ha
 obtain ⟨j,hj,rfl⟩:=List.getElem_of_mem hb
 have hp:=List.pairwise_iff_getElem.1 hf.asc
 by_cases hij:i < j
 ·have:=hp i j hi hj hij
  rw [Zds,h] at this;omega
 ·by_cases hji:j < i
  ·have:=hp j i hj hi hji
   rw [Zds,h] at this;omega
  ·have:i=j:=by omega
   subst this;rfl
theorem ZeT {f:List ZP} {n:Nat} (hf:FOk f n) {e:ZP} (he:e∈f):e.node.id≠zid:=by
 intro h
 have:=(hf.all e he).o1
 rw [h] at this
 exact absurd this (by decide)
theorem Zjw {f:List ZP} {n:Nat} {ss:List Jt} (hf:FOk f n) (h:Zf3 f ss):ZdT ss=true:=by
 have hl:=h.len
 rw [ZdT,Bool.and_eq_true,decide_eq_true_eq,List.all_eq_true]
 refine ⟨by omega,fun i hi=>?_⟩
 rw [List.mem_range'_1] at hi
 have hil:i < ss.length:=by omega
 obtain ⟨ho,hn⟩:=h.spot i hil
 rw [Bool.and_eq_true,VG _ hil]
 refine ⟨?_,?_⟩
 ·rw [Zls,Bool.and_eq_true,decide_eq_true_eq]
  refine ⟨by omega,?_⟩
  rcases hn with ⟨e1,e2⟩ | ⟨e,he,_,e1,e2⟩
  ·rw [e1,e2,if_pos (show JW.id=zid from rfl),Zh0];rfl
  ·rw [e1,if_neg (ZeT hf he),(hf.all e he).ok,Bool.true_and,Bool.or_eq_true,decide_eq_true_eq]
   exact e2
 ·unfold ZjK
  rw [List.getElem?_eq_getElem hil]
  show (!((ss.take i).any (ZnY ss[i].node.id)))=true
  rw [Bool.not_eq_true',List.any_eq_false]
  intro x hx
  obtain ⟨j,hj,rfl⟩:=List.getElem_of_mem hx
  rw [List.length_take] at hj
  rw [List.getElem_take]
  have hji:j < i:=by omega
  obtain ⟨_,hm⟩:=h.spot j (by omega)
  rw [ZnY,Bool.not_eq_true,Bool.and_eq_false_iff]
  rcases hm with ⟨e1,_⟩ | ⟨e,he,hs,e1,_⟩
  ·left;rw [e1];rfl
  ·right
   rw [decide_eq_false_iff_not,e1]
   intro heq
   rcases hn with ⟨e3,_⟩ | ⟨e',he',hs',e3,_⟩
   ·rw [e3] at heq;exact ZeT hf he heq
   ·rw [e3] at heq
    have:=Zlu hf he he' heq
    subst this
    omega
structure StG (f:List ZP) (s:WC):Prop where
 slots:Zf3 f s.slots
 ok:ZaW s=true
 pend:s.pending.length≤3
 psrc:∀ q∈s.pending,q.src.path.length≤20∧q.call.dest < 8
 pok:∀ q∈s.pending,Zel q=true
 marks:s.marks.length≤3
 answers:s.answers.length≤3
 entries:s.entries.length≤3
 epath:∀ e∈s.entries,e.node.path.length≤20
 commits:s.commits.length≤3
abbrev StT:=LL×LL×LL×LL×LL×LL
def stV (s:WC):StT:=(s.slots.map Z9,s.pending.map ZgF,s.marks.map Zh7,s.answers.map Zla,s.entries.map Zm,Zf s.commits)
def StR (f:List ZP) (l:List Int) (r:StT):Prop:=∃ s:WC,r=stV s∧StG f s∧(RL l→ZmY s)
def Zos (z:List Int) (l:List Req):Prop:=(RL z→∀ q∈l,∀ x∈Zf0 q.call,Rng x)∧l.length≤3∧(∀ q∈l,q.src.path.length≤20∧q.call.dest < 8)∧(∀ q∈l,Zel q=true)∧Ze0 ltp l=true
def ZnW (l:List ZjJ):Prop:=l.length≤3∧(∀ q∈l,ZeX q=true)∧Ze0 ltm l=true
def Znr (l:List Ans):Prop:=l.length≤3∧(∀ q∈l,Zi2 q=true)∧Ze0 lta l=true
def ZlJ (l:List ZP):Prop:=l.length≤3∧(∀ e∈l,e.node.path.length≤20)∧(∀ q∈l,Zjl q=true)∧Ze0 lte l=true
def ZmJ (l:List Id):Prop:=l.length≤3∧∀ q∈l,Zit q=true
theorem Zjo {l:List Int} {f:List ZP} {n:Nat} (hf:FOk f n) {ss:List Jt} (hs:Zf3 f ss) {pe:List Req} (hp:Zos l pe) {ma:List ZjJ} (hm:ZnW ma) {an:List Ans} (ha:Znr an) {en:List ZP} (he:ZlJ en) {co:List Id} (hc:ZmJ co) :
  StR f l (ss.map Z9,pe.map ZgF,ma.map Zh7,an.map Zla,en.map Zm,Zf co):=by
 refine ⟨⟨ss,pe,ma,an,en,co⟩,rfl,⟨hs,?_,hp.2.1,hp.2.2.1,hp.2.2.2.1,hm.1,ha.1,he.1,he.2.1,hc.1⟩,hp.1⟩
 simp only [ZaW,Zjw hf hs,List.all_eq_true.2 hp.2.2.2.1,hp.2.2.2.2,List.all_eq_true.2 hm.2.1,hm.2.2,List.all_eq_true.2 ha.2.1,ha.2.2,List.all_eq_true.2 he.2.2.1,he.2.2.2,List.all_eq_true.2 hc.2,Bool.and_self]
theorem Zlk {e:ZP} (h:EOk e):Zjl e=true:=by
 obtain ⟨h1,h2,h3,h4,_,_,_,_,_,h5⟩:=h
 simp only [Zjl,Wz,ZjV,h5,Bool.and_eq_true,decide_eq_true_eq,and_true]
 omega
theorem ZnT (l:List Int) (f:List ZP) (n:Nat) (hf:FOk f n) (hn:n≤60) (y2 y3 y4 y5 y6 y7 sl pe ma an:LL) (h:∀ en co,ZlJ en→ZmJ co→StR f l (sl,pe,ma,an,en.map Zm,Zf co)) :
  Ret (StR f l) (Zk8 Z2 (Ze l) (f.map Zm) y2 y3 y4 y5 y6 y7 sl pe ma an E0 E0 0):=by
 have hfl:=hf.len
 refine Yz (F:=fun k (s:LL×LL) z=>Zk8 k (Ze l) (f.map Zm) y2 y3 y4 y5 y6 y7 sl pe ma an s.1 s.2 z) 3
  (fun i s=>∃ cs,s=(List.map Zm (f.take i),Zf cs)∧i≤f.length∧cs.length≤i∧∀ c∈cs,Zit c=true) (by omega) (fun k i s hi hj ih=>?_) (E0,E0) ⟨[],by simp [Zf],by omega,by simp,by simp⟩
 obtain ⟨cs,rfl,h1,h2,h3⟩:=hj
 have out:Ret (StR f l) (some (sl,pe,ma,an,List.map Zm (f.take i),Zf cs)):=Zh (h _ _ ⟨by simp;omega,fun e he=>by have:=(JR (hf.all e (List.mem_of_mem_take he)).ok).2.2.1;omega,fun e he=>Zlk (hf.all e (List.mem_of_mem_take he)),ZjE hf.asc.take⟩ ⟨by omega,h3⟩)
 show Ret _ (Zk8 (k+1) _ _ _ _ _ _ _ _ _ _ _ _ _ _ _)
 rw [ZkN]
 refine Zd (Jb l _) fun _ _=>Zd (place _ 3 (by omega) (by omega)) fun r16 h16=>?_
 refine Zj (fun h4=>?_) fun _=>out
 refine Zj (fun h5=>?_) fun _=>out
 simp only [CQ,List.length_map] at h4 h5
 have hif:i < f.length:=by omega
 refine Zi (ZU (by simp;omega) (by omega)) ?_
 refine Ju (Zx hif _) ?_
 simp only [Yd,d2,d4,d8,d16]
 refine Zi (ZU (by simp;omega) (by omega)) (Zi (ZU (by rw [JB];simp;omega) (by omega)) ?_)
 refine Zd (Jb l _) fun _ _=>Zd (s18 _) fun r ⟨c,hc,hco⟩=>?_
 subst hc
 refine Zi (ZU (by rw [JB];simp;omega) (by omega)) ?_
 rw [Zeu hi (by omega)]
 refine ih (by omega) (List.map Zm (f.take i)++(E0++[Zm f[i]]),Zf cs++(E0++[idc c])) ⟨cs++[c],?_,by omega,by simp;omega,KM h3 hco.ok⟩
 have e1:f.take (i+1)=f.take i++[f[i]]:=by rw [List.take_add_one,List.getElem?_eq_getElem hif];rfl
 rw [e1,WP]
 simp [Zf]
theorem ZnU (l:List Int) (f:List ZP) (n:Nat) (hf:FOk f n) (hn:n≤60) (y2 y3 y4 y5 y6 y7 sl pe ma:LL) (h:∀ an en co,Znr an→ZlJ en→ZmJ co→StR f l (sl,pe,ma,an.map Zla,en.map Zm,Zf co)) :
  Ret (StR f l) (Zlf Z2 (Ze l) (f.map Zm) y2 y3 y4 y5 y6 y7 sl pe ma E0 E0 E0 0):=by
 refine Yz (F:=fun k (s:LL) z=>Zlf k (Ze l) (f.map Zm) y2 y3 y4 y5 y6 y7 sl pe ma s E0 E0 z) 3
  (fun i s=>∃ es:List Ans,s=List.map Zla es∧es.length=i∧(∀ j (h:j < es.length),es[j].op=((j+1:Nat):Int))∧∀ x∈es,Zi2 x=true) (by omega) (fun k i s hi hj ih=>?_) _ ⟨[],rfl,by simp,by simp,by simp⟩
 obtain ⟨es,rfl,h1,h2,h3⟩:=hj
 show Ret _ (Zlf (k+1) _ _ _ _ _ _ _ _ _ _ _ _ _ _ _)
 rw [Zk2]
 refine Zd (Jb l _) fun _ _=>Zd (place _ 3 (by omega) (by omega)) fun r16 h16=>?_
 refine Zj (fun h4=>?_) fun _=>ZnT l f n hf hn _ _ _ _ _ _ _ _ _ _ fun en co he hc=>h es en co ⟨by omega,h3,(Zci ..).2 fun j hj=>by rw [lta,h2,h2,decide_eq_true_eq];omega⟩ he hc
 simp only [CQ] at h4
 refine Zi (ZU (by simp;omega) (by omega)) ?_
 refine Zd (Jb l _) fun _ _=>Zd (place _ 20 (by omega) (by omega)) fun v hv=>?_
 refine Zi (ZU (by simp;omega) (by omega)) ?_
 rw [Zeu hi (by omega)]
 refine ih (by omega) _ ⟨es++[⟨((i+1:Nat):Int),v⟩],by rw [← WP];rfl,by simp;omega,fun j hj=>?_,KM h3 (by simp only [Zi2,Zmo,Bool.and_eq_true,decide_eq_true_eq];omega)⟩
 by_cases hjl:j < es.length
 ·rw [List.getElem_append_left hjl];exact h2 j hjl
 ·rw [List.getElem_append_right (by omega)]
  rw [List.length_append,List.length_cons,List.length_nil] at hj
  have:j=i:=by omega
  subst this
  simp
theorem Zn9 (l:List Int) (f:List ZP) (n:Nat) (hf:FOk f n) (hn:n≤60) (y2 y3 y4 y5 y6 y7 sl pe:LL) (h:∀ ma an en co,ZnW ma→Znr an→ZlJ en→ZmJ co→StR f l (sl,pe,ma.map Zh7,an.map Zla,en.map Zm,Zf co)) :
  Ret (StR f l) (Zj8 Z2 (Ze l) (f.map Zm) y2 y3 y4 y5 y6 y7 sl pe E0 E0 E0 E0 0):=by
 refine Yz (F:=fun k (s:LL) z=>Zj8 k (Ze l) (f.map Zm) y2 y3 y4 y5 y6 y7 sl pe s E0 E0 E0 z) 3
  (fun i s=>∃ es:List ZjJ,s=List.map Zh7 es∧es.length=i∧(∀ j (h:j < es.length),es[j].region=(j:Int))∧∀ x∈es,ZeX x=true) (by omega) (fun k i s hi hj ih=>?_) _ ⟨[],rfl,by simp,by simp,by simp⟩
 obtain ⟨es,rfl,h1,h2,h3⟩:=hj
 show Ret _ (Zj8 (k+1) _ _ _ _ _ _ _ _ _ _ _ _ _ _ _)
 rw [ZkO]
 refine Zd (Jb l _) fun _ _=>Zd (place _ 3 (by omega) (by omega)) fun r16 h16=>?_
 refine Zj (fun h4=>?_) fun _=>ZnU l f n hf hn _ _ _ _ _ _ _ _ _ fun an en co ha he hc=>h es an en co ⟨by omega,h3,(Zci ..).2 fun j hj=>by rw [ltm,h2,h2,decide_eq_true_eq];omega⟩ ha he hc
 simp only [CQ] at h4
 refine Zi (ZU (by simp;omega) (by omega)) ?_
 refine Zd (Jb l _) fun _ _=>Zd (s18 _) fun r ⟨c,hc,hco⟩=>?_
 subst hc
 refine Zi (ZU (by simp;omega) (by omega)) ?_
 rw [Zeu hi (by omega)]
 refine ih (by omega) _ ⟨es++[⟨(i:Int),c⟩],by rw [← WP];rfl,by simp;omega,fun j hj=>?_,KM h3 (by simp only [ZeX,Zhf,hco.ok,Bool.and_eq_true,decide_eq_true_eq,and_true];omega)⟩
 by_cases hjl:j < es.length
 ·rw [List.getElem_append_left hjl];exact h2 j hjl
 ·rw [List.getElem_append_right (by omega)]
  rw [List.length_append,List.length_cons,List.length_nil] at hj
  have:j=i:=by omega
  subst this
  simp
theorem Zn1 (l:List Int) (f:List ZP) (n:Nat) (hf:FOk f n) (hn:n≤60) (y2 y3 y4 y5 y6 y7 sl:LL) (h:∀ pe ma an en co,Zos l pe→ZnW ma→Znr an→ZlJ en→ZmJ co→StR f l (sl,pe.map ZgF,ma.map Zh7,an.map Zla,en.map Zm,Zf co)) :
  Ret (StR f l) (ZiX Z2 (Ze l) (f.map Zm) y2 y3 y4 y5 y6 y7 sl E0 E0 E0 E0 E0 0):=by
 have hfl:=hf.len
 refine Yz (F:=fun k (s:LL) z=>ZiX k (Ze l) (f.map Zm) y2 y3 y4 y5 y6 y7 sl s E0 E0 E0 E0 z) 3
  (fun i s=>∃ es,s=List.map ZgF es∧es.length≤i∧(∀ q∈es,q.src.path.length≤20∧q.call.dest < 8)∧(∀ q∈es,Zel q=true)∧Ze0 ltp es=true∧(RL l→∀ q∈es,∀ x∈Zf0 q.call,Rng x)) (by omega) (fun k i s hi hj ih=>?_) _ ⟨[],rfl,by simp,by simp,by simp,rfl,by simp⟩
 obtain ⟨es,rfl,h1,h3,h7,h8,h9⟩:=hj
 have out:=Zn9 l f n hf hn y2 y3 y4 y5 y6 y7 sl (List.map ZgF es) fun ma an en co hm ha he hc=>h es ma an en co ⟨h9,by omega,h3,h7,h8⟩ hm ha he hc
 show Ret _ (ZiX (k+1) _ _ _ _ _ _ _ _ _ _ _ _ _ _ _)
 rw [ZkK]
 refine Zd (Jb l _) fun _ _=>Zd (place _ 3 (by omega) (by omega)) fun r16 h16=>?_
 refine Zj (fun h4=>?_) fun _=>out
 refine Zj (fun h5=>?_) fun _=>out
 simp only [CQ,List.length_map] at h4 h5
 have e13:iop .add .i64 13 (i:Int)=13+i:=Jp (by omega) (by omega)
 rw [e13]
 refine Zd (s20 l _ (by omega)) fun r ⟨m,hr,_,hsub⟩=>?_
 subst hr
 rw [List.length_map]
 refine Zd (Jb l _) fun _ _=>Zd (place _ _ (by omega) (by omega)) fun r19 h19=>?_
 have hil:r19.toNat < f.length:=by omega
 refine Kt h19.1 hil ?_
 simp only [Yd,d2,d4,d8,d16]
 have hno:=(hf.all _ (List.getElem_mem hil)).ok
 have hp:=(JR hno).2.2.1
 refine Zd (s19 m f[r19.toNat].node hno (by omega)) fun r ⟨q,hq,hqp,hqo,hqc⟩=>?_
 subst hq
 rw [Zeu hi (by omega)]
 have room1:Z0 E0 (List.map ZgF es) 240:=ZU (by simp;omega) (by omega)
 have room2:Z0 (List.map ZgF es) (E0++[ZgF q]) 240:=ZU (by simp;omega) (by omega)
 have nxt:i < 3→(∀ h:0 < es.length,ltp (es[es.length-1]'(by omega)) q=true)→Ret (StR f l) (ZiX k (Ze l) (f.map Zm) y2 y3 y4 y5 y6 y7 sl (List.map ZgF es++(E0++[ZgF q])) E0 E0 E0 E0 ((i+1:Nat):Int)):=fun hi3 hlt=>ih hi3 _ ⟨es++[q],(WP ..),by simp;omega,KM h3 hqp,KM h7 hqo,ZiK h8 hlt,fun hl=>KM (h9 hl) (hqc (hsub hl))⟩
 refine Zj (fun h6=>Zi room1 (Zi room2 (nxt (by omega) fun h=>?_))) fun h6=>?_
 ·simp only [CQ,List.length_map] at h6
  omega
 simp only [CQ,List.length_map] at h6
 have e1:iop .sub .i64 (List.length (List.map ZgF es):Int) 1=((es.length-1:Nat):Int):=by rw [List.length_map,ZdM (by omega) (by omega)];omega
 rw [e1]
 refine Ju (ZhW (show es.length-1 < es.length by omega) _) ?_
 refine Ju (congrArg (fun o=>Option.bind o _) (s21 _ _ _ _ _ _)) ?_
 refine Zj (fun hlt=>Zi room1 (Zi room2 (nxt (by omega) fun _=>hlt))) fun _=>ih (by omega) _ ⟨es,rfl,by omega,h3,h7,h8,h9⟩
def ZiQ (b:Id) (s:Jt):Jt:={ s with lock:=b }
theorem ZmU (acc:List Jt) (i:Nat) (b:Id):Jd (acc.map Z9) i 12 [I b.core,I b.op,I b.part]=(acc.modify i (ZiQ b)).map Z9:=WX Z9 (ZiQ b) acc i 12 _ fun _ _=>rfl
theorem Zf3.lockS {f:List ZP} {ss:List Jt} (h:Zf3 f ss) (i:Nat) (hi:i < ss.length) (b:Id) (hb:Zit b=true) (he:Yi ss[i]=false):Zf3 f (ss.modify i (ZiQ b)):=by
 refine ⟨by rw [List.length_modify];exact h.len,fun t ht=>?_⟩
 rw [List.length_modify] at ht
 rw [List.getElem_modify]
 obtain ⟨ho,hn⟩:=h.spot t ht
 split
 ·rename_i heq
  subst heq
  refine ⟨ho,?_⟩
  rcases hn with ⟨e1,_⟩ | ⟨e,he',hs,e1,_⟩
  ·rw [Yi,e1] at he
   exact absurd he (by decide)
  ·exact .inr ⟨e,he',hs,e1,.inr hb⟩
 ·exact ⟨ho,hn⟩
theorem Zf3.opS {f:List ZP} {ss:List Jt} (h:Zf3 f ss) (i:Nat) (g:Jt→Jt) (hg:∀ x,(g x).node=x.node∧(g x).lock=x.lock∧0≤(g x).op∧(g x).op≤20):Zf3 f (ss.modify i g):=by
 refine ⟨by rw [List.length_modify];exact h.len,fun t ht=>?_⟩
 rw [List.length_modify] at ht
 rw [List.getElem_modify]
 obtain ⟨ho,hn⟩:=h.spot t ht
 split
 ·rw [(hg _).1,(hg _).2.1]
  exact ⟨(hg _).2.2,hn⟩
 ·exact ⟨ho,hn⟩
theorem ZnG (l:List Int) (f:List ZP) (n:Nat) (hf:FOk f n) (hn:n≤60) (y2 y3 y4 y5 y6 y7:LL) (ss:List Jt) (hss:Zf3 f ss) :
  Ret (StR f l) (ZfL Z2 (Ze l) (f.map Zm) y2 y3 y4 y5 y6 y7 (ss.map Z9) E0 E0 E0 E0 E0 0):=by
 refine Yz (F:=fun k (s:LL) z=>ZfL k (Ze l) (f.map Zm) y2 y3 y4 y5 y6 y7 s E0 E0 E0 E0 E0 z) 12
  (fun i s=>∃ es,s=List.map Z9 es∧Zf3 f es) (by omega) (fun k i s hi hj ih=>?_) _ ⟨ss,rfl,hss⟩
 obtain ⟨es,rfl,h1⟩:=hj
 have hl:=h1.len
 show Ret _ (ZfL (k+1) _ _ _ _ _ _ _ _ _ _ _ _ _ _ _)
 rw [Zkq,List.length_map]
 refine Zj (fun h4=>?_) fun _=>Zn1 l f n hf hn _ _ _ _ _ _ _ fun pe ma an en co hp hm ha he hc=>Zjo hf h1 hp hm ha he hc
 simp only [CQ] at h4
 have hi12:i < 12:=by omega
 have hie:i < es.length:=by omega
 rw [Zeu hi (by omega)]
 have h0:(0:Int)≤(i:Int):=by omega
 have hlt:(i:Int) < (es.length:Int):=by omega
 -- what becomes of the reservation
 have part2:∀ es':List Jt,Zf3 f es'→Ret (StR f l) ((g16 (Ze l) (i:Int)).bind fun (r17:Int)=>(g6 r17 7).bind fun (r18:Int)=>if (cop .eql r18 6)=true then (g16 (Ze l) (i:Int)).bind fun (r19:Int)=>Zn ((7:Int)≠0)<|(g6 (iop .quo .i64 r19 7) 20).bind fun (r20:Int)=>Zn ((0:Int)≤(i:Int))<|Zn ((i:Int) < (List.length (es'.map Z9):Int))<|Zn ((0:Int)≤(i:Int))<|Zn ((i:Int) < (List.length (es'.map Z9):Int))<|
   ZfL k (Ze l) (f.map Zm) y2 y3 y4 y5 y6 y7 (Jd (es'.map Z9) (Int.toNat (i:Int)) 11 [AV.val (.int .i64 (iop .add .i64 1 r20))]) E0 E0 E0 E0 E0 ((i+1:Nat):Int)
   else ZfL k (Ze l) (f.map Zm) y2 y3 y4 y5 y6 y7 (es'.map Z9) E0 E0 E0 E0 E0 ((i+1:Nat):Int)):=by
  intro es' he'
  have hl':=he'.len
  refine Zd (Jb l _) fun _ _=>Zd (place _ 7 (by omega) (by omega)) fun r18 _=>?_
  refine Zj (fun _=>?_) fun _=>ih hi12 _ ⟨es',rfl,he'⟩
  refine Zd (Jb l _) fun _ _=>Zi (by omega) (Zd (place _ 20 (by omega) (by omega)) fun r20 h20=>?_)
  rw [List.length_map]
  refine Zi h0 (Zi (by omega) (Zi h0 (Zi (by omega) ?_)))
  have e20:iop .add .i64 1 r20=1+r20:=Jp (by omega) (by omega)
  rw [Int.toNat_natCast,e20,Znh]
  exact ih hi12 _ ⟨_,rfl,he'.opS _ _ fun x=>⟨rfl,rfl,by show 0≤1+r20;omega,by show 1+r20≤20;omega⟩⟩
 refine Zd (Jb l _) fun _ _=>Zd (place _ 5 (by omega) (by omega)) fun r16 _=>?_
 refine Zj (fun _=>?_) fun _=>?_
 ·refine Zi h0 (Zi hlt ?_)
  refine Ju (J5 hie _) ?_
  simp only [Zhl,d2,d4,d8,d16]
  rw [s17,Option.bind_some]
  refine Zj (fun hne=>?_) fun _=>?_
  ·rw [Bool.not_eq_true'] at hne
   refine Zd (Jb l _) fun _ _=>Zi (by omega) (Zd (s18 _) fun r ⟨b,hb,hbo⟩=>?_)
   subst hb
   refine Zi h0 (Zi hlt (Zi h0 (Zi hlt ?_)))
   have:=part2 (es.modify i (ZiQ b)) (h1.lockS i hie b hbo.ok hne)
   rw [← ZmU,← Int.toNat_natCast i] at this
   exact this
  ·have:=part2 es h1
   rw [List.length_map] at this
   exact this
 ·have:=part2 es h1
  rw [List.length_map] at this
  exact this
theorem s7 (l:List Int) (f:List ZP) (n:Nat) (hf:FOk f n) (hn:n≤60) (c:Int):Ret (StR f l) (g7 (Ze l) (f.map Zm) c):=by
 rw [Zob]
 refine Zd (s15 f n hn hf c) fun r ⟨s,hs,hr⟩=>?_
 subst hr
 exact ZnG l f n hf hn _ _ _ _ _ _ s hs.slIn
theorem StG.few {f:List ZP} {n:Nat} (hf:FOk f n) {s:WC} (h:StG f s):ZgG s.slots:=by
 refine ⟨by have:=h.slots.len;omega,fun x hx=>?_⟩
 obtain ⟨t,ht,rfl⟩:=List.getElem_of_mem hx
 rcases (h.slots.spot t ht).2 with ⟨e,_⟩ | ⟨e,he,_,e1,_⟩
 ·rw [e];simp [JW]
 ·rw [e1]
  have:=(JR (hf.all e he).ok).2.2.1
  omega
end Go.Proofs.YtmjkdbpffdampaaGreat
end

section
namespace Go.Proofs.YtmjkdbpffdampaaGreat
open Go Go.AM
set_option linter.unusedSimpArgs false
set_option linter.unusedVariables false
set_option maxRecDepth 100000
structure VwG (v:Zkc):Prop where
 ok:Zhg v=true
 members:v.members.length≤4
 owners:v.owners.length≤4
structure StS (s:WC):Prop where
 ok:ZaW s=true
 slots:s.slots.length≤12
 spath:∀ x∈s.slots,x.node.path.length≤20
 pend:s.pending.length≤3
 psrc:∀ q∈s.pending,q.src.path.length≤20
 marks:s.marks.length≤3
 answers:s.answers.length≤3
 entries:s.entries.length≤3
 epath:∀ e∈s.entries,e.node.path.length≤20
 commits:s.commits.length≤3
structure RpS (r:ZbV):Prop where
 core:Wz r.core=true
 view:VwG r.view
 state:StS r.state
 next:VwG r.next
 proposal:StS r.proposal
theorem RpS.ok {r:ZbV} (h:RpS r):ZlP r=true:=by simp only [ZlP,h.core,h.view.ok,h.state.ok,h.next.ok,h.proposal.ok,Bool.and_self]
end Go.Proofs.YtmjkdbpffdampaaGreat
end

section
namespace Go.Proofs.YtmjkdbpffdampaaGreat
open Go Go.AM
set_option linter.unusedSimpArgs false
set_option linter.unusedVariables false
set_option maxRecDepth 100000
theorem l58 {b r w l k s:Int} {d:Bool} {lv wd bits sz off obj cnt:Int} (hb:0≤b) (hoff:0≤off) (hsz:0≤sz) (hc:cnt≤8) (hm:b+off+8*sz < 2^62):∀ (j i fuel:Nat),cnt=i+j→j < fuel→
  JO fuel obj bits lv wd off k b s r w l d sz (Jw obj (b+off) sz bits r wd lv d i) cnt i=some (Jw obj (b+off) sz bits r wd lv d cnt.toNat,0):=by
 intro j
 have e62:(2:Int)^62=4611686018427387904:=by decide
 induction j with
 | zero =>
  intro i fuel h hf
  obtain ⟨f,rfl⟩:∃ f,fuel=f+1:=⟨fuel-1,by omega⟩
  rw [Ze1,if_neg (by simp only [ZG,ZO,ZN,ZK,ZF,ZH,ZC,ZD,ZI,ZE,ZJ,ZM,Bool.not_eq_true,Bool.not_eq_false,Bool.not_eq_true',Bool.not_eq_false',Bool.and_eq_true,Bool.or_eq_true,decide_eq_true_eq,decide_eq_false_iff_not,Bool.false_eq_true,Bool.true_eq_false,Option.bind_some,Option.some.injEq,false_iff,true_iff,iff_false,iff_true];omega)]
  have:cnt.toNat=i:=by omega
  rw [this]
 | succ j ih =>
  intro i fuel h hf
  obtain ⟨f,rfl⟩:∃ f,fuel=f+1:=⟨fuel-1,by omega⟩
  have hsi:(i:Int)*sz≤8*sz:=Int.mul_le_mul_of_nonneg_right (by omega) hsz
  have hsi0:0≤(i:Int)*sz:=Int.mul_nonneg (by omega) hsz
  have a1:iop .add .i64 b off=b+off:=Jp (by omega) (by omega)
  have a2:iop .mul .i64 i sz=i*sz:=ZkL (by omega) (by omega)
  have a3:iop .add .i64 (b+off) (i*sz)=b+off+i*sz:=Jp (by omega) (by omega)
  have a4:iop .add .i64 i 1=((i+1:Nat):Int):=by rw [Jp (by omega) (by omega)];omega
  rw [Ze1,if_pos (by simp only [ZG,ZO,ZN,ZK,ZF,ZH,ZC,ZD,ZI,ZE,ZJ,ZM,Bool.not_eq_true,Bool.not_eq_false,Bool.not_eq_true',Bool.not_eq_false',Bool.and_eq_true,Bool.or_eq_true,decide_eq_true_eq,decide_eq_false_iff_not,Bool.false_eq_true,Bool.true_eq_false,Option.bind_some,Option.some.injEq,false_iff,true_iff,iff_false,iff_true];omega),Zp (JM (by rw [Kv];simp;omega)),a1,a2,a3,a4]
  have:=ih (i+1) f (by omega) (by omega)
  rw [VY] at this
  exact this
set_option maxHeartbeats 4000000 in
theorem s58 (k b s r w l:Int) (d:Bool) (obj bits level width off cnt:Int):g58 k b s r w l d obj bits level width off cnt =
  some (YK ⟨k,b,s,r,w,l,d⟩ obj bits level width off cnt,YX ⟨k,b,s,r,w,l,d⟩ obj bits level width off cnt):=by
 rw [ZlM]
 simp only [s82,s83,s84,Option.bind_some]
 by_cases hh:Kn ⟨k,b,s,r,w,l,d⟩=true∧k=1∧iop .and .i64 r 2≠0∧Kg obj bits=true∧(obj=3→Wp width level=true)∧1≤cnt∧cnt≤8∧0≤off
 ·obtain ⟨h1,rfl,h3,h4,h5,h6,h7,h8⟩:=hh
  obtain ⟨n1,n2,n3,n4,n5,n6,n7,n8,n9,n10,n11,n12,n13,n14,n15,n16⟩:=Zfe h1 h4 h6 h7 h8
  have q1:(Zn ((0:Int)≤bits):Option (List (List AV)×Int)→_)=fun x=>x:=V3 n7
  have q2:(Zn ((2:Int)^bits.toNat≠0):Option (List (List AV)×Int)→_)=fun x=>x:=V3 n6
  have q3:(Zn ((0:Int)≤s):Option (List (List AV)×Int)→_)=fun x=>x:=V3 n8
  simp only at n3 n5
  have loop:∀ lv wd,off+cnt*2^bits.toNat≤2^s.toNat→JO Z2 obj bits lv wd off 1 b s r w l d (2^bits.toNat) [] cnt 0=some (Jw obj (b+off) (2^bits.toNat) bits r wd lv d cnt.toNat,0):=by
   intro lv wd hle
   have:=l58 (k:=1) (s:=s) (r:=r) (w:=w) (l:=l) (d:=d) (lv:=lv) (wd:=wd) (bits:=bits) (obj:=obj) (cnt:=cnt) n9 h8 (Int.le_of_lt n11) h7 (show b+off+8*2^bits.toNat < 2^62 by
    have e62:(2:Int)^62=4611686018427387904:=by decide
    simp only at n10
    omega) cnt.toNat 0 Z2 (by omega) (V8 (by omega))
   exact this
  have hR:YX ⟨1,b,s,r,w,l,d⟩ obj bits level width off cnt=if d=true∧obj≠1∧obj≠2 then 5 else if off % 2^bits.toNat≠0∨2^s.toNat-cnt*2^bits.toNat < off∨(obj=1∧s≤bits) then 6 else 0:=by
   rw [YX,if_neg (by simp [h1]),if_neg h3,if_neg (by
    rintro (h | ⟨h,h'⟩ | h | h | h)
    ·rw [h4] at h;cases h
    ·rw [h5 h] at h';cases h'
    ·omega
    ·omega
    ·omega)]
  have hk1:cop .neq (1:Int) 1=false:=rfl
  simp only [n1,n2,n3,n4,n5,q1,q2,q3,h1,h4,hk1,Bool.not_true,Bool.false_eq_true,if_false]
  clear n1 n2 n3 n4 n5 q1 q2 q3
  by_cases e5:d=true∧obj≠1∧obj≠2
  ·rw [if_pos e5] at hR
   obtain ⟨hd,e1,e2⟩:=e5
   repeat' (with_reducible refine Zk (fun _=>?_) (fun _=>?_))
   all_goals first
    | exact V0 (by decide) hR
    | (exfalso; simp only [ZG, ZO, ZN, ZK, ZF, ZH, ZC, ZD, ZI, ZE, ZJ, ZM, Bool.not_eq_true, Bool.not_eq_false, Bool.not_eq_true', Bool.not_eq_false', Bool.and_eq_true, Bool.or_eq_true, decide_eq_true_eq, decide_eq_false_iff_not, Bool.false_eq_true, Bool.true_eq_false, Option.bind_some, Option.some.injEq, false_iff, true_iff, iff_false, iff_true] at *; first | omega | grind)
  ·rw [if_neg e5] at hR
   by_cases e6:off % 2^bits.toNat≠0∨2^s.toNat-cnt*2^bits.toNat < off∨(obj=1∧s≤bits)
   ·rw [if_pos e6] at hR
    repeat' (with_reducible refine Zk (fun _=>?_) (fun _=>?_))
    all_goals first
     | exact V0 (by decide) hR
     | (exfalso; simp only [ZG, ZO, ZN, ZK, ZF, ZH, ZC, ZD, ZI, ZE, ZJ, ZM, Bool.not_eq_true, Bool.not_eq_false, Bool.not_eq_true', Bool.not_eq_false', Bool.and_eq_true, Bool.or_eq_true, decide_eq_true_eq, decide_eq_false_iff_not, Bool.false_eq_true, Bool.true_eq_false, Option.bind_some, Option.some.injEq, false_iff, true_iff, iff_false, iff_true] at *; first | omega | grind)
   ·rw [if_neg e6] at hR
    have hL:∀ lv wd,JO Z2 obj bits lv wd off 1 b s r w l d (2^bits.toNat) [] cnt 0=some (Jw obj (b+off) (2^bits.toNat) bits r wd lv d cnt.toNat,0):=fun lv wd=>loop lv wd (by omega)
    simp only [hL,YK,hR,if_true]
    repeat' (with_reducible refine Zk (fun _=>?_) (fun _=>?_))
    all_goals first
     | (simp only [ZG, ZO, ZN, ZK, ZF, ZH, ZC, ZD, ZI, ZE, ZJ, ZM, Bool.not_eq_true, Bool.not_eq_false, Bool.not_eq_true', Bool.not_eq_false', Bool.and_eq_true, Bool.or_eq_true, decide_eq_true_eq, decide_eq_false_iff_not, Bool.false_eq_true, Bool.true_eq_false, Option.bind_some, Option.some.injEq, false_iff, true_iff, iff_false, iff_true] at *; rw [if_pos (by omega), if_pos (by omega)]; done)
     | (simp only [ZG, ZO, ZN, ZK, ZF, ZH, ZC, ZD, ZI, ZE, ZJ, ZM, Bool.not_eq_true, Bool.not_eq_false, Bool.not_eq_true', Bool.not_eq_false', Bool.and_eq_true, Bool.or_eq_true, decide_eq_true_eq, decide_eq_false_iff_not, Bool.false_eq_true, Bool.true_eq_false, Option.bind_some, Option.some.injEq, false_iff, true_iff, iff_false, iff_true] at *; rw [if_neg (by omega), if_neg (by omega)]; done)
     | (exfalso; simp only [ZG, ZO, ZN, ZK, ZF, ZH, ZC, ZD, ZI, ZE, ZJ, ZM, Bool.not_eq_true, Bool.not_eq_false, Bool.not_eq_true', Bool.not_eq_false', Bool.and_eq_true, Bool.or_eq_true, decide_eq_true_eq, decide_eq_false_iff_not, Bool.false_eq_true, Bool.true_eq_false, Option.bind_some, Option.some.injEq, false_iff, true_iff, iff_false, iff_true] at *; first | omega | grind)
 ·repeat' (with_reducible refine Zk (fun _=>?_) (fun _=>?_))
  all_goals first
   | exact V0 (by decide) (by simp only [ZG, ZO, ZN, ZK, ZF, ZH, ZC, ZD, ZI, ZE, ZJ, ZM, Bool.not_eq_true, Bool.not_eq_false, Bool.not_eq_true', Bool.not_eq_false', Bool.and_eq_true, Bool.or_eq_true, decide_eq_true_eq, decide_eq_false_iff_not, Bool.false_eq_true, Bool.true_eq_false, Option.bind_some, Option.some.injEq, false_iff, true_iff, iff_false, iff_true] at *; simp only [YX]; grind)
   | (exfalso; simp only [ZG, ZO, ZN, ZK, ZF, ZH, ZC, ZD, ZI, ZE, ZJ, ZM, Bool.not_eq_true, Bool.not_eq_false, Bool.not_eq_true', Bool.not_eq_false', Bool.and_eq_true, Bool.or_eq_true, decide_eq_true_eq, decide_eq_false_iff_not, Bool.false_eq_true, Bool.true_eq_false, Option.bind_some, Option.some.injEq, false_iff, true_iff, iff_false, iff_true] at *; grind)
end Go.Proofs.YtmjkdbpffdampaaGreat
end

section
namespace Go.Proofs.YtmjkdbpffdampaaGreat
open Go Go.AM
set_option linter.unusedSimpArgs false
set_option linter.unusedVariables false
set_option maxRecDepth 100000
structure Reg where
 base:Int
 bits:Int
 dev:Bool
def WW (r:Reg):List AV:=[I r.base,I r.bits,B r.dev]
theorem Zaz {γ:Type} {l:List Reg} {i:Nat} (h:i < l.length) (k:(Int×Int×Bool)→Option γ):Zq (l.map WW) (i:Int) [.int .i64,.int .i64,.bool] k=k (l[i].base,l[i].bits,l[i].dev):=
 Y0 (f:=WW) (sh:=[.int .i64,.int .i64,.bool]) (v:=fun r=>(r.base,r.bits,r.dev)) (fun _=>rfl) h k
theorem s61 (a b:Int):g61 a b=some (K6 a b):=by
 rw [Zlt]
 simp only [s55,Option.bind_some]
 cases h:Yf a b with
 | false => simp [K6, h]
 | true =>
  obtain ⟨h1,h2,h3,h4,h5⟩:=WJ h
  simp only [Bool.not_true,Bool.false_eq_true,if_false]
  rw [Zp (by omega),Zh8 h]
theorem s35 (a b c d:Int):g35 a b c d=some (inB a b c d):=by
 rw [Zmg]
 simp only [s55,s61,Option.bind_some]
 repeat' split
 all_goals (refine congrArg some ?_;rw [Z4];simp only [inB,CQ] at *; grind)
def Zc4 (b n:Int) (r:Reg):Bool:=inB r.base r.bits b n
def Wl (rs:List Reg) (b n:Int):Int:=Zb0 rs.length (Yt (Zc4 b n) rs)
theorem s75 (a b:Int) (d:Bool):g75 a b d=some (a,b):=Zm9 ..
theorem s47 (rs:List Reg) (hn:rs.length < 2^63) (b n:Int):g47 (rs.map WW) b n=some (Wl rs b n):=by
 rw [Zmj]
 exact KF (F:=fun k z=>Zgb k (rs.map WW) b n z) (n:=rs.length) (fun m=>Zb0 rs.length m) (atP (Zc4 b n) rs) hn
  (fun k i hi=>by
   show Zgb (k+1) _ _ _ _=_
   rw [ZeI,List.length_map,if_pos (YY hi)]
   refine (Zaz hi _).trans ?_
   rw [s75,Option.bind_some,s65,Option.bind_some,YP hi hn,YD _ hi,Zcy hi]
   rfl)
  (fun k=>by show Zgb (k+1) _ _ _ _=_;rw [ZeI,List.length_map,if_neg (YU (Nat.le_refl _)),Zb0,if_neg (Nat.lt_irrefl _)])
  (Yt (Zc4 b n) rs) (Kl _ _) (fun j hj=>by have:=Kl (Zc4 b n) rs;rw [YD _ (by omega)];exact Vb _ _ j (by omega) hj) (fun h=>by rw [YD _ h];exact Ws _ _ h)
theorem s13 (rs:List Reg) (hn:rs.length < 2^63) (b n:Int):g13 (rs.map WW) b n=some (if 0≤Wl rs b n then (Wl rs b n,true) else (0,false)):=by
 rw [ZmE,List.length_map]
 refine (KF (F:=fun k z=>Zgg k b n (rs.map WW) (rs.length:Int) z) (n:=rs.length) (fun m=>if m < rs.length then ((m:Int),true) else (0,false)) (atP (Zc4 b n) rs) hn
  (fun k i hi=>by
   show Zgg (k+1) _ _ _ _ _=_
   rw [Zfc,if_pos (YY hi)]
   refine (Zaz hi _).trans ?_
   rw [s35,Option.bind_some,YP hi hn,YD _ hi,if_pos hi]
   rfl)
  (fun k=>by show Zgg (k+1) _ _ _ _ _=_;rw [Zfc,if_neg (YU (Nat.le_refl _)),if_neg (Nat.lt_irrefl _)])
  (Yt (Zc4 b n) rs) (Kl _ _) (fun j hj=>by have:=Kl (Zc4 b n) rs;rw [YD _ (by omega)];exact Vb _ _ j (by omega) hj) (fun h=>by rw [YD _ h];exact Ws _ _ h)).trans ?_
 unfold Wl Zb0
 by_cases h:Yt (Zc4 b n) rs < rs.length
 ·rw [if_pos h,if_pos h,if_pos (by omega)]
 ·rw [if_neg h,if_neg h,if_neg (by omega)]
def Zif (l:List Jt) (d c:Int):List Jt:=(l.drop d.toNat).take c.toNat
def Zem (l:List Jt) (d c:Int):Bool:=(Zif l d c).any fun s=>!Yi s
theorem s81 (s:Jt):g81 s.node.id.core s.node.id.op s.node.id.part (Zf s.node.path) s.node.cap.kind s.node.cap.base s.node.cap.bits s.node.cap.rights s.node.cap.width s.node.cap.level s.node.cap.device s.op s.lock.core s.lock.op s.lock.part=some (!Yi s):=by
 rw [ZlU,s57,Option.bind_some]
theorem Zl4 (l:List Jt) (hl:l.length < 2^63):ZhD (l.map Z9)=some (l.any fun s=>!Yi s):=by
 have h:∃ r,Zd5 (l.map Z9)=some r∧cop .geq r 0=(List.range' 0 l.length).any (fun i=>!atB Yi l i):=by
  rw [Zgd,List.length_map]
  refine Zfw (F:=fun k z=>YV k (l.map Z9) (l.length:Int) z) (fun i=>!atB Yi l i) hl (fun k i hi=>?_) (fun k i hi=>?_)
  ·show YV (k+1) _ _ _=_
   rw [Ww,if_pos (YY hi)]
   refine (J5 hi _).trans ?_
   refine (congrArg (fun x=>Option.bind x _) (s81 l[i])).trans ?_
   rw [Option.bind_some,YP hi hl,VG _ hi]
  ·show YV (k+1) _ _ _=_
   rw [Ww,if_neg (YU hi)]
 obtain ⟨r,h1,h2⟩:=h
 rw [Zhq,h1,Option.bind_some,h2,ZjU,List.any_eq_not_all_not]
 simp
theorem s56 (l:List Jt) (hl:l.length < 2^62) (d c:Int) (hd:0≤d) (hc:0≤c) (h:d+c≤l.length):g56 (l.map Z9) d c=some (Zem l d c):=by
 have e:iop .add .i64 d c=d+c:=Jp (by omega) (by omega)
 rw [ZmB,e,Zp hd,Zp (by omega),Zp (by rw [List.length_map];omega)]
 have e2:List.drop d.toNat (List.take (d+c).toNat (l.map Z9))=(Zif l d c).map Z9:=by
  unfold Zif
  rw [← List.map_take,← List.map_drop,List.drop_take]
  congr 2;omega
 rw [e2,Zl4 _ (by unfold Zif;rw [List.length_take];omega),Option.bind_some]
 rfl
theorem s48 (l:List Jt) (hl:l.length < 2^62) (d c:Int) (hd:0≤d) (hc:0≤c) (h:d+c≤l.length):g48 (l.map Z9) d c=some (Zem l d c):=by
 obtain ⟨m,rfl⟩:∃ m:Nat,c=(m:Int):=⟨c.toNat,by omega⟩
 have hlen:(Zif l d m).length=m:=by unfold Zif;rw [List.length_take,List.length_drop];omega
 rw [ZmA]
 have:=VT (F:=fun k i=>ZgC k (l.map Z9) d (m:Int) i) (n:=m) (fin:=some false) (bad:=some true) (atB Yi (Zif l d (m:Int))) (by omega) 0 (by omega)
  (fun k i _ hi=>by
   show ZgC (k+1) (l.map Z9) d (m:Int) _=_
   have e:iop .add .i64 d (i:Int)=((d.toNat+i:Nat):Int):=by rw [Jp (by omega) (by omega)];omega
   have hi2:d.toNat+i < l.length:=by omega
   rw [ZfG,if_pos (YY hi),e]
   refine (J5 hi2 _).trans ?_
   refine (congrArg (fun x=>Option.bind x _) (s17 l[d.toNat+i])).trans ?_
   have hs:(Zif l d (m:Int))[i]'(by omega)=l[d.toNat+i]:=by unfold Zif;simp
   rw [Option.bind_some,YP hi (by omega),VG _ (by omega),hs]
   cases Yi l[d.toNat+i]<;>rfl)
  (fun k i hi=>by show ZgC (k+1) (l.map Z9) d (m:Int) _=_;rw [ZfG,if_neg (YU hi)])
 have ha:=ZeQ Yi (Zif l d (m:Int))
 rw [hlen] at ha
 rw [Nat.sub_zero,ha] at this
 refine Eq.trans this ?_
 unfold Zem
 rw [List.any_eq_not_all_not]
 simp only [Bool.not_not]
 cases (Zif l d (m:Int)).all Yi<;>rfl
def wfB (core n:Int) (c:Call):Bool:=decide (
 (c.kind=1∧(0≤c.dest∧c.dest < n)∧6≤c.bits∧c.bits≤40)∨
 (c.kind=2∧(0≤c.slot∧c.slot < n)∧(1≤c.count∧c.count≤8)∧0≤c.dest∧c.dest≤n-c.count)∨
 (c.kind=3∧(0≤c.slot∧c.slot < n)∧(0≤c.dest∧c.dest < n)∧0≤c.mask∧c.mask≤7)∨
 (c.kind=4∧(0≤c.slot∧c.slot < n)∧(0≤c.dest∧c.dest < n)∧(0≤c.mask∧c.mask≤7)∧(0≤c.core∧c.core < 32)∧c.core≠core)∨
 ((c.kind=5∨c.kind=6)∧0≤c.slot∧c.slot < n))
theorem s52 (x n:Int):g52 x n=some (decide (0≤x∧x < n),n):=by
 rw [Zlv]
 refine Zk (fun h=>?_) (fun h=>?_)
 all_goals (refine congrArg (fun b=>some (b,n)) ?_;rw [Z4];simp only [CQ] at *; omega)
theorem Zhw (n q:Int) (h0:0≤n) (h1:n < 2^62):∃ t,iop .sub .i64 n q=t∧(1≤q→q≤8→t=n-q):=⟨_,rfl,fun h2 h3=>ZdM (by omega) (by omega)⟩
set_option maxHeartbeats 4000000 in
theorem s28 (core n:Int) (c:Call) (h0:0≤n) (h1:n < 2^62):g28 core n c.kind c.slot c.dest c.core c.mask c.object c.bits c.level c.offset c.count c.index c.addr=some (wfB core n c):=by
 obtain ⟨t,ht,hs⟩:=Zhw n c.count h0 h1
 rw [ZlG]
 simp only [s52,Option.bind_some,ht]
 repeat' (with_reducible refine Zk (fun _=>?_) (fun _=>?_))
 all_goals (refine congrArg some ?_;rw [Z4];simp only [wfB,CQ] at *; omega)
set_option maxHeartbeats 4000000 in
theorem s43 (core n:Int) (c:Call) (h0:0≤n) (h1:n < 2^62) (hk1:1≤c.kind) (hk2:c.kind≤6):g43 core n c.kind c.slot c.dest c.core c.mask c.object c.bits c.level c.offset c.count c.index c.addr=some (!wfB core n c):=by
 obtain ⟨t,ht,hs⟩:=Zhw n c.count h0 h1
 rw [Zmd]
 simp only [ht]
 repeat' (with_reducible refine Zk (fun _=>?_) (fun _=>?_))
 all_goals (refine congrArg some ?_;rw [Z4];simp only [wfB,CQ] at *; omega)
theorem Zkb {core n:Int} {c:Call} (h:wfB core n c=true):1≤c.kind∧c.kind≤6:=by
 have:=of_decide_eq_true h
 omega
def isO (n:Int):Option Int→Bool
 | some x => decide (x = n)
 | none => false
def ZjQ (l:List Int) (n:Int):List Int:=
 if isO n l[Yt (fun x=>!decide (x < n)) l]? = true then l else l.take (Yt (fun x=>!decide (x < n)) l)++[n]++l.drop (Yt (fun x=>!decide (x < n)) l)
theorem s74 (l:List Int) (hl:l.length≤1000) (n:Int):g74 (Ze l) n=some (Ze (ZjQ l n)):=by
 rw [ZlY]
 have fin:∀ m:Nat,m≤l.length→(Zn ((0:Int)≤(m:Int))<|Zn (((m:Nat):Int)≤(l.length:Int))<|Zn (Z0 E0 (List.take (Int.toNat (m:Int)) (Ze l)) 8)<|Zn (Z0 (List.take (Int.toNat (m:Int)) (Ze l)) (E0++[[AV.val (.int .i64 n)]]) 8)<|Zn ((0:Int)≤(m:Int))<|Zn (((m:Nat):Int)≤(l.length:Int))<|
   Zn (Z0 ((List.take (Int.toNat (m:Int)) (Ze l))++(E0++[[AV.val (.int .i64 n)]])) (List.drop (Int.toNat (m:Int)) (Ze l)) 8)<|some ((((List.take (Int.toNat (m:Int)) (Ze l))++(E0++[[AV.val (.int .i64 n)]]))++(List.drop (Int.toNat (m:Int)) (Ze l)))))=some (Ze (l.take m++[n]++l.drop m)):=fun m hm=>by
  rw [Zp (by omega),Zp (by omega),Zp (JM (by rw [List.length_take,ZQ];simp;omega)),Zp (JM (by rw [List.length_take,ZQ];simp;omega)),Zp (by omega),Zp (by omega),Zp (JM (by rw [List.length_append,List.length_take,List.length_drop,ZQ];simp;omega))]
  simp [Ze,List.map_take,List.map_drop,Zlb]
 refine (KF (F:=fun k z=>Zgm k (Ze l) n z) (n:=l.length) (fun m=>Ze (if isO n l[m]? = true then l else l.take m++[n]++l.drop m)) (fun i=>atP (fun x=>!decide (x < n)) l i) (by omega) (fun k i hi=>?_) (fun k=>?_) (Yt (fun x=>!decide (x < n)) l) (Kl _ _) (fun j hj=>?_) (fun h=>?_)).trans rfl
 ·show Zgm (k+1) _ _ _=_
  rw [ZeF,ZQ,if_pos (YY hi)]
  refine (Jl hi _).trans ?_
  rw [YP hi (by omega),YD _ hi]
  by_cases h:l[i] < n
  ·rw [if_pos (by simpa [cop] using h),if_neg (by simp [h])]
  ·rw [if_neg (by simpa [cop] using h),if_pos (YY hi),if_pos (by simp [h])]
   refine (Jl hi _).trans ?_
   rw [List.getElem?_eq_getElem hi]
   by_cases he:l[i]=n
   ·rw [if_pos (by simpa [cop] using he)];simp [he,isO]
   ·rw [if_neg (by simpa [cop] using he),fin i (by omega)];simp [he,isO]
 ·show Zgm (k+1) _ _ _=_
  rw [ZeF,ZQ,if_neg (YU (Nat.le_refl _)),if_neg (YU (Nat.le_refl _)),fin l.length (Nat.le_refl _)]
  simp [isO]
 ·have:=Kl (fun x=>!decide (x < n)) l;rw [YD _ (by omega)];exact Vb _ _ j (by omega) hj
 ·rw [YD _ h];exact Ws _ _ h
def Asc (l:List Int):Prop:=l.Pairwise (· < ·)
theorem ZbO:∀ {l m:List Int},Asc l→Asc m→(∀ x,x∈l↔x∈m)→l=m
 | [], [], _, _, _ => rfl
 | [], y :: m, _, _, h => absurd ((h y).2 (by simp)) (by simp)
 | x :: l, [], _, _, h => absurd ((h x).1 (by simp)) (by simp)
 | x :: l, y :: m, hl, hm, h => by
  obtain ⟨h1,h2⟩:=List.pairwise_cons.1 hl
  obtain ⟨k1,k2⟩:=List.pairwise_cons.1 hm
  have hxy:x=y:=by
   have a:=(h x).1 (by simp)
   have b:=(h y).2 (by simp)
   rcases List.mem_cons.1 a with a | a
   ·exact a
   ·rcases List.mem_cons.1 b with b | b
    ·exact b.symm
    ·have:=h1 y b;have:=k1 x a;omega
  subst hxy
  refine congrArg _ (ZbO h2 k2 fun z=>?_)
  constructor
  ·intro hz
   have:=h1 z hz
   rcases List.mem_cons.1 ((h z).1 (List.mem_cons_of_mem _ hz)) with e | e
   ·omega
   ·exact e
  ·intro hz
   have:=k1 z hz
   rcases List.mem_cons.1 ((h z).2 (List.mem_cons_of_mem _ hz)) with e | e
   ·omega
   ·exact e
theorem Zcv {l:List Int} (h:Asc l) (n:Int):Asc (ZjQ l n)∧(∀ x,x∈ZjQ l n↔x=n∨x∈l)∧(ZjQ l n).length≤l.length+1:=by
 have hle:=Kl (fun x=>!decide (x < n)) l
 have hlt:∀ x∈l.take (Yt (fun x=>!decide (x < n)) l),x < n:=fun x hx=>by
  obtain ⟨i,hi,rfl⟩:=List.getElem_of_mem hx
  rw [List.length_take] at hi
  have:=Vb (fun x=>!decide (x < n)) l i (by omega) (by omega)
  rw [List.getElem_take]
  simpa using this
 unfold ZjQ
 by_cases hh:isO n l[Yt (fun x=>!decide (x < n)) l]? = true
 ·rw [if_pos hh]
  refine ⟨h,fun x=>⟨.inr,fun hx=>?_⟩,by omega⟩
  rcases hx with rfl | hx
  ·cases hy:l[Yt (fun y=>!decide (y < x)) l]? with
   | none => rw [hy] at hh; cases hh
   | some y =>
    rw [hy] at hh
    have e:y=x:=of_decide_eq_true hh
    subst e
    exact List.mem_of_getElem? hy
  ·exact hx
 ·rw [if_neg hh]
  have hge:∀ x∈l.drop (Yt (fun x=>!decide (x < n)) l),n < x:=fun x hx=>by
   obtain ⟨i,hi,rfl⟩:=List.getElem_of_mem hx
   rw [List.length_drop] at hi
   have h0:Yt (fun x=>!decide (x < n)) l < l.length:=by omega
   have hq:=Ws (fun x=>!decide (x < n)) l h0
   rw [List.getElem?_eq_getElem h0] at hh
   have hne:¬ l[Yt (fun x=>!decide (x < n)) l]=n:=fun e=>hh (by simp [e,isO])
   have hq2:¬ l[Yt (fun x=>!decide (x < n)) l] < n:=by simpa using hq
   rw [List.getElem_drop]
   cases i with
   | zero => simp only [Nat.add_zero]; omega
   | succ i =>
    have:=(List.pairwise_iff_getElem.1 h) (Yt (fun x=>!decide (x < n)) l) (Yt (fun x=>!decide (x < n)) l+(i+1)) (by omega) (by omega) (by omega)
    omega
  refine ⟨?_,fun x=>?_,by simp;omega⟩
  ·unfold Asc
   rw [List.append_assoc,List.pairwise_append]
   refine ⟨h.sublist (List.take_sublist _ _),?_,fun a ha b hb=>?_⟩
   ·rw [List.singleton_append,List.pairwise_cons]
    exact ⟨fun b hb=>hge b hb,h.sublist (List.drop_sublist _ _)⟩
   ·rw [List.singleton_append,List.mem_cons] at hb
    rcases hb with rfl | hb
    ·exact hlt a ha
    ·have:=hlt a ha;have:=hge b hb;omega
  ·have e:x∈l↔x∈l.take (Yt (fun x=>!decide (x < n)) l)∨x∈l.drop (Yt (fun x=>!decide (x < n)) l):=by
    rw [← List.mem_append,List.take_append_drop]
   rw [e,List.mem_append,List.mem_append,List.mem_singleton]
   constructor
   ·rintro ((a | a) | a)
    ·exact .inr (.inl a)
    ·exact .inl a
    ·exact .inr (.inr a)
   ·rintro (a | a | a)
    ·exact .inl (.inr a)
    ·exact .inl (.inl a)
    ·exact .inr a
theorem ZiB {l:List Int} (h:l.Pairwise (·≤·)):Asc (Lib.compact l)∧∀ x,x∈Lib.compact l↔x∈l:=by
 have get:∀ j,j < l.length→l.toArray[j]! = l[j]!:=fun j hj=>by simp
 constructor
 ·unfold Asc Lib.compact Lib.compactUpTo
  rw [List.pairwise_map]
  refine List.Pairwise.imp_of_mem ?_ ((List.pairwise_lt_range).filter _)
  intro a b ha hb hab
  obtain ⟨ha1,ha2⟩:=List.mem_filter.1 ha
  obtain ⟨hb1,hb2⟩:=List.mem_filter.1 hb
  rw [List.mem_range] at ha1 hb1
  have hk:=of_decide_eq_true hb2
  have hne:l.toArray[b]!≠l.toArray[b-1]!:=hk.resolve_left (by omega)
  have e1:l.toArray[b]! = l[b]:=by simp [hb1]
  have e2:l.toArray[b-1]! = l[b-1]:=by simp [show b-1 < l.length by omega]
  have e3:l.toArray[a]! = l[a]:=by simp [ha1]
  rw [e1,e2] at hne
  rw [e1,e3]
  have p:=List.pairwise_iff_getElem.1 h
  have q1:=p (b-1) b (by omega) hb1 (by omega)
  by_cases hab2:a=b-1
  ·subst hab2;omega
  ·have q2:=p a (b-1) ha1 (by omega) (by omega)
   omega
 ·intro x
  unfold Lib.compact Lib.compactUpTo
  rw [List.mem_map]
  constructor
  ·rintro ⟨j,hj,rfl⟩
   have hj:=List.mem_range.1 (List.mem_filter.1 hj).1
   have:l.toArray[j]! = l[j]:=by simp [hj]
   rw [this]
   exact List.getElem_mem hj
  ·intro hx
   have hlt:Yt (fun y=>decide (y=x)) l < l.length:=by
    obtain ⟨i,hi,hix⟩:=List.getElem_of_mem hx
    by_cases hc:Yt (fun y=>decide (y=x)) l < l.length
    ·exact hc
    ·have:=Vb (fun y=>decide (y=x)) l i hi (by omega)
     rw [hix] at this
     simp at this
   have hq:=of_decide_eq_true (Ws (fun y=>decide (y=x)) l hlt)
   refine ⟨Yt (fun y=>decide (y=x)) l,List.mem_filter.2 ⟨List.mem_range.2 hlt,?_⟩,by simp [hlt,hq]⟩
   unfold Lib.keeps
   rw [decide_eq_true_eq]
   by_cases h0:Yt (fun y=>decide (y=x)) l=0
   ·exact .inl h0
   ·right
    have:=Vb (fun y=>decide (y=x)) l (Yt (fun y=>decide (y=x)) l-1) (by omega) (by omega)
    have e1:l.toArray[Yt (fun y=>decide (y=x)) l]! = l[Yt (fun y=>decide (y=x)) l]:=by simp [hlt]
    have e2:l.toArray[Yt (fun y=>decide (y=x)) l-1]! = l[Yt (fun y=>decide (y=x)) l-1]:=by simp [show Yt (fun y=>decide (y=x)) l-1 < l.length by omega]
    rw [e1,e2,hq]
    intro e
    rw [← e] at this
    simp at this
theorem Zed (k s d c:Int):Asc (Yl k s d c)∧∀ x,x∈Yl k s d c↔x∈JA k s d c:=by
 have hs:((JA k s d c).mergeSort fun x y=>decide (x≤y)).Pairwise (·≤·):=by
  have:=List.pairwise_mergeSort (le:=fun x y:Int=>decide (x≤y)) (fun a b c h1 h2=>by simp only [decide_eq_true_eq] at *; omega) (fun a b=>by simp only [Bool.or_eq_true,decide_eq_true_eq];omega) (JA k s d c)
  exact this.imp fun h=>by simpa using h
 obtain ⟨h1,h2⟩:=ZiB hs
 refine ⟨h1,fun x=>?_⟩
 rw [Yl,h2 x]
 exact (List.mergeSort_perm _ _).mem_iff
theorem l44 (c:Call) (hd:0≤c.dest) (hd2:c.dest < 2^62) (hc:c.count≤8):∀ (j i fuel:Nat) (acc:List Int),i+j=c.count.toNat→j < fuel→Asc acc→acc.length≤i→(∀ x,x∈acc↔∃ q:Nat,q < i∧x=c.dest+q)→
  ∃ l,ZiO fuel c.kind c.slot c.dest c.core c.mask c.object c.bits c.level c.offset c.count c.index c.addr (Ze acc) (i:Int)=some (Ze l)∧Asc l∧∀ x,x∈l↔x=c.slot∨∃ q:Nat,q < c.count.toNat∧x=c.dest+q:=by
 intro j
 induction j with
 | zero =>
  intro i fuel acc h hf ha hl hm
  obtain ⟨f,rfl⟩:∃ f,fuel=f+1:=⟨fuel-1,by omega⟩
  obtain ⟨a1,a2,a3⟩:=Zcv ha c.slot
  refine ⟨ZjQ acc c.slot,?_,a1,fun x=>?_⟩
  ·rw [Zfh,if_neg (by simp only [CQ];omega),s74 acc (by omega),Option.bind_some]
  ·rw [a2,hm,show i=c.count.toNat by omega]
 | succ j ih =>
  intro i fuel acc h hf ha hl hm
  obtain ⟨f,rfl⟩:∃ f,fuel=f+1:=⟨fuel-1,by omega⟩
  obtain ⟨a1,a2,a3⟩:=Zcv ha (c.dest+(i:Int))
  have e1:iop .add .i64 c.dest (i:Int)=c.dest+(i:Int):=Jp (by omega) (by omega)
  have e2:iop .add .i64 (i:Int) 1=((i+1:Nat):Int):=by rw [Jp (by omega) (by omega)];omega
  obtain ⟨l,h1,h2,h3⟩:=ih (i+1) f (ZjQ acc (c.dest+(i:Int))) (by omega) (by omega) a1 (by omega) (fun x=>by
   rw [a2,hm]
   constructor
   ·rintro (rfl | ⟨q,hq,rfl⟩)
    ·exact ⟨i,by omega,rfl⟩
    ·exact ⟨q,by omega,rfl⟩
   ·rintro ⟨q,hq,rfl⟩
    by_cases hqi:q=i
    ·exact .inl (by rw [hqi])
    ·exact .inr ⟨q,by omega,rfl⟩)
  exact ⟨l,by rw [Zfh,if_pos (by simp only [CQ];omega),e1,s74 acc (by omega),Option.bind_some,e2];exact h1,h2,h3⟩
theorem s44 (core n:Int) (c:Call) (hn:n < 2^62) (h:wfB core n c=true):g44 c.kind c.slot c.dest c.core c.mask c.object c.bits c.level c.offset c.count c.index c.addr=some (Ze (Yl c.kind c.slot c.dest c.count)):=by
 have hw:=of_decide_eq_true h
 obtain ⟨q1,q2⟩:=Zed c.kind c.slot c.dest c.count
 have one:∀ z:Int,Asc [z]:=fun z=>List.pairwise_singleton _ _
 rw [Zmr]
 refine Zk (fun h1=>?_) fun h1=>?_
 ·simp only [CQ] at h1
  have e:Yl c.kind c.slot c.dest c.count = [c.dest]:=ZbO q1 (one _) fun x=>by rw [q2,JA,if_pos h1]
  rw [e];rfl
 refine Zk (fun h2=>?_) fun h2=>?_
 ·simp only [CQ] at h1 h2
  obtain ⟨l,p1,p2,p3⟩:=l44 c (by omega) (by omega) (by omega) c.count.toNat 0 Z2 [] (by omega) (V8 (by omega)) List.Pairwise.nil (Nat.le_refl _) (fun x=>by simp)
  have e:Yl c.kind c.slot c.dest c.count=l:=ZbO q1 p2 fun x=>by
   rw [q2,p3,JA,if_neg h1,if_pos h2,List.mem_cons,List.mem_map]
   constructor
   ·rintro (a | ⟨i,hi,rfl⟩)
    ·exact .inl a
    ·have hi:=List.mem_range.1 hi
     exact .inr ⟨i,hi,Jp (by omega) (by omega)⟩
   ·rintro (a | ⟨i,hi,rfl⟩)
    ·exact .inl a
    ·exact .inr ⟨i,List.mem_range.2 hi,Jp (by omega) (by omega)⟩
  rw [e];exact p1
 refine Zk (fun h3=>?_) fun h3=>?_
 ·simp only [CQ] at h1 h2 h3
  obtain ⟨a1,a2,a3⟩:=Zcv (one c.slot) c.dest
  have e:Yl c.kind c.slot c.dest c.count=ZjQ [c.slot] c.dest:=ZbO q1 a1 fun x=>by
   rw [q2,a2,JA,if_neg h1,if_neg h2,if_pos h3];simp [or_comm]
  rw [e]
  have:=s74 [c.slot] (by simp) c.dest
  exact congrArg (fun x=>Option.bind x some) this
 ·simp only [CQ] at h1 h2 h3
  have e:Yl c.kind c.slot c.dest c.count = [c.slot]:=ZbO q1 (one _) fun x=>by rw [q2,JA,if_neg h1,if_neg h2,if_neg h3]
  rw [e];rfl
theorem Wr {core n:Int} {c:Call} (hn:n < 2^62) (h:wfB core n c=true):∀ x∈Yl c.kind c.slot c.dest c.count,0≤x∧x < n:=by
 have hw:=of_decide_eq_true h
 intro x hx
 have hx:=((Zed c.kind c.slot c.dest c.count).2 x).1 hx
 unfold JA at hx
 split at hx
 ·simp at hx;omega
 ·split at hx
  ·rcases List.mem_cons.1 hx with a | a
   ·omega
   ·obtain ⟨i,hi,rfl⟩:=List.mem_map.1 a
    have hi:=List.mem_range.1 hi
    have e:iop .add .i64 c.dest (i:Int)=c.dest+(i:Int):=Jp (by omega) (by omega)
    rw [e];omega
  ·split at hx
   ·simp at hx;omega
   ·simp at hx;omega
end Go.Proofs.YtmjkdbpffdampaaGreat
end

section
namespace Go.Proofs.YtmjkdbpffdampaaGreat
open Go Go.AM
set_option linter.unusedSimpArgs false
set_option linter.unusedVariables false
set_option maxRecDepth 100000
def Zn5 (r:Req) (l:List Int) (e:Int):Int×Int×Int×Int×Int×Int×Int×Int×Int×Int×Int×Int×Int×Int×Int×Int×Int×Int×Int×Int×LL×Int×Int×Int×Int×Int×Int×Bool×LL×Int:=(r.id.core,r.id.op,r.id.part,r.call.kind,r.call.slot,r.call.dest,r.call.core,r.call.mask,r.call.object,r.call.bits,r.call.level,r.call.offset,r.call.count,r.call.index,r.call.addr,r.region,r.width,r.src.id.core,r.src.id.op,r.src.id.part,Zf r.src.path,r.src.cap.kind,r.src.cap.base,r.src.cap.bits,r.src.cap.rights,r.src.cap.width,r.src.cap.level,r.src.cap.device,Ze l,e)
def ZjI:Jt:=⟨JW,0,⟨0,0,0⟩⟩
def getS (ss:List Jt) (i:Int):Jt:=ss[i.toNat]?.getD ZjI
theorem YE {γ:Type} {l:List Jt} {i:Int} (h0:0≤i) (h:i < l.length) (k:ShsT Zc3→Option γ):Zq (l.map Z9) i Zc3 k=k (Zhl (getS l i)):=by
 obtain ⟨j,rfl⟩:∃ j:Nat,i=j:=⟨i.toNat,by omega⟩
 have hj:j < l.length:=by omega
 refine (J5 hj k).trans ?_
 simp [getS,hj]
theorem Zje {l:List Jt} {i:Int} (h0:0≤i) (h:i < l.length):getS l i∈l:=by
 have hj:i.toNat < l.length:=by omega
 unfold getS
 rw [List.getElem?_eq_getElem hj]
 exact List.getElem_mem hj
def Yq (ss:List Jt) (rs:List Reg) (c:Call):Int:=
 if Yf c.offset c.bits=false then 6 else if Wl rs c.offset c.bits < 0 then 11 else if Zem ss c.dest 1=true then 3 else 0
def Znw (width:Int) (ss:List Jt) (ms:List Int) (n:Vn) (c:Call):Int:=
 if c.kind=2 then (if YX n.cap c.object c.bits c.level width c.offset c.count≠0 then YX n.cap c.object c.bits c.level width c.offset c.count else if Zem ss c.dest c.count=true then 3 else if 8≤n.path.length then 9 else 0)
 else if c.kind=3 then (if Zem ss c.dest 1=true then 3 else if 8≤n.path.length then 9 else 0)
 else if c.kind=4 then (if n.cap.kind=3∨n.cap.kind=5∨n.cap.kind=6 then 5 else if iop .and .i64 n.cap.rights 4=0 then 8 else if 8≤n.path.length then 9 else if ms.any (fun x=>decide (c.core=x))=false then 10 else 0)
 else 0
def Zl7 (width:Int) (ss:List Jt) (ms:List Int) (s:Jt) (c:Call):Int:=if Yi s=true then 2 else Znw width ss ms s.node c
theorem s31 (ss:List Jt) (rs:List Reg) (c:Call) (hs:ss.length < 2^62) (hr:rs.length < 2^63) (h0:0≤c.dest) (h1:c.dest < ss.length):g31 (ss.map Z9) (rs.map WW) c.kind c.slot c.dest c.core c.mask c.object c.bits c.level c.offset c.count c.index c.addr=some (Yq ss rs c):=by
 rw [ZlS]
 simp only [s55,s13 rs hr,s56 ss hs c.dest 1 h0 (by omega) (by omega),Option.bind_some]
 unfold Yq
 cases Yf c.offset c.bits with
 | false => rfl
 | true =>
  by_cases h:0≤Wl rs c.offset c.bits
  ·rw [if_pos h]
   simp only [Bool.not_true,Bool.false_eq_true,if_false,Bool.true_eq_false,show ¬ Wl rs c.offset c.bits < 0 by omega]
   split<;>rfl
  ·rw [if_neg h]
   simp only [Bool.not_true,Bool.not_false,Bool.false_eq_true,if_false,if_true,Bool.true_eq_false,show Wl rs c.offset c.bits < 0 by omega]
theorem s32 (core width:Int) (ss:List Jt) (ms:List Int) (c:Call) (hs:ss.length < 2^62) (hm:ms.length < 2^63) (hw:wfB core ss.length c=true) (hk:c.kind≠1) (hp:(getS ss c.slot).node.path.length < 2^62) :
  g32 width (ss.map Z9) (Ze ms) c.kind c.slot c.dest c.core c.mask c.object c.bits c.level c.offset c.count c.index c.addr=some (Zl7 width ss ms (getS ss c.slot) c):=by
 have w:=of_decide_eq_true hw
 have a0:0≤c.slot:=by omega
 have a1:c.slot < ss.length:=by omega
 rw [ZmR]
 refine (YE a0 a1 _).trans ?_
 refine (YE a0 a1 _).trans ?_
 refine (congrArg (fun x=>Option.bind x _) (s57 _)).trans ?_
 generalize getS ss c.slot=s at hp
 obtain ⟨⟨⟨i1,i2,i3⟩,path,⟨ck,cb,cs,cr,cw,cl,cd⟩⟩,sop,⟨j1,j2,j3⟩⟩:=s
 rw [Option.bind_some]
 simp only [Zhl,s58,s59 ms hm]
 unfold Zl7
 refine Zk (fun h=>by rw [if_pos h]) fun h=>?_
 rw [if_neg h]
 unfold Znw
 have ln:(List.length (Zf path):Int)=path.length:=by simp [Zf]
 refine Zk (fun h2=>?_) fun h2=>?_
 ·simp only [CQ] at h2
  rw [if_pos h2,s56 ss hs c.dest c.count (by omega) (by omega) (by omega)]
  simp only [Option.bind_some,ln]
  repeat' (with_reducible refine Zk (fun _=>?_) (fun _=>?_))
  all_goals (refine congrArg some ?_;(try simp only [CQ] at *);grind)
 simp only [CQ] at h2
 rw [if_neg h2]
 refine Zk (fun h3=>?_) fun h3=>?_
 ·simp only [CQ] at h3
  rw [if_pos h3,s56 ss hs c.dest 1 (by omega) (by omega) (by omega)]
  simp only [Option.bind_some,ln]
  repeat' (with_reducible refine Zk (fun _=>?_) (fun _=>?_))
  all_goals (refine congrArg some ?_;(try simp only [CQ] at *);grind)
 simp only [CQ] at h3
 rw [if_neg h3]
 simp only [Option.bind_some,ln]
 repeat' (with_reducible refine Zk (fun _=>?_) (fun _=>?_))
 all_goals (refine congrArg some ?_;(try simp only [CQ] at *);grind)
theorem s49 (core width:Int) (ss:List Jt) (ms:List Int) (n:Vn) (c:Call) (hs:ss.length < 2^62) (hm:ms.length < 2^63) (hw:wfB core ss.length c=true) :
  g49 width (ss.map Z9) (Ze ms) n.id.core n.id.op n.id.part (Zf n.path) n.cap.kind n.cap.base n.cap.bits n.cap.rights n.cap.width n.cap.level n.cap.device c.kind c.slot c.dest c.core c.mask c.object c.bits c.level c.offset c.count c.index c.addr=some (Znw width ss ms n c):=by
 have w:=of_decide_eq_true hw
 obtain ⟨⟨i1,i2,i3⟩,path,⟨ck,cb,cs,cr,cw,cl,cd⟩⟩:=n
 rw [Zm4]
 simp only [s41,s76 ms hm]
 unfold Znw
 have ln:(List.length (Zf path):Int)=path.length:=by simp [Zf]
 refine Zk (fun h2=>?_) fun h2=>?_
 ·simp only [CQ] at h2
  rw [if_pos h2,s48 ss hs c.dest c.count (by omega) (by omega) (by omega)]
  simp only [Option.bind_some,ln]
  repeat' (with_reducible refine Zk (fun _=>?_) (fun _=>?_))
  all_goals (refine congrArg some ?_;(try simp only [CQ] at *);grind)
 simp only [CQ] at h2
 rw [if_neg h2]
 refine Zk (fun h3=>?_) fun h3=>?_
 ·simp only [CQ] at h3
  rw [if_pos h3,s48 ss hs c.dest 1 (by omega) (by omega) (by omega)]
  simp only [Option.bind_some,ln]
  repeat' (with_reducible refine Zk (fun _=>?_) (fun _=>?_))
  all_goals (refine congrArg some ?_;(try simp only [CQ] at *);grind)
 simp only [CQ] at h3
 rw [if_neg h3]
 simp only [Option.bind_some,ln]
 repeat' (with_reducible refine Zk (fun _=>?_) (fun _=>?_))
 all_goals (refine congrArg some ?_;(try simp only [CQ] at *);grind)
def WD (core op width:Int) (ss:List Jt) (rs:List Reg) (ms:List Int) (c:Call):Req×List Int×Int:=
 if c.kind=1 then (if Yq ss rs c≠0 then (Zbd,[],Yq ss rs c) else (⟨⟨core,op,0⟩,c,Wl rs c.offset c.bits,width,JW⟩,Yl c.kind c.slot c.dest c.count,0))
 else if Zl7 width ss ms (getS ss c.slot) c≠0 then (Zbd,[],Zl7 width ss ms (getS ss c.slot) c)
 else if Wl rs (getS ss c.slot).node.cap.base (getS ss c.slot).node.cap.bits < 0 then (Zbd,[],11)
 else (⟨⟨core,op,0⟩,c,Wl rs (getS ss c.slot).node.cap.base (getS ss c.slot).node.cap.bits,width,(getS ss c.slot).node⟩,Yl c.kind c.slot c.dest c.count,0)
def ZfO (ss:List Jt) (c:Call):Bool:=(Yl c.kind c.slot c.dest c.count).any fun i=>ZaA (getS ss i)
def We (core op width:Int) (n:Int) (c:Call):Bool:=decide (0≤core∧core < 32∧1≤op∧op≤1073741824∧(width=32∨width=39))&&wfB core n c
def WE (core op width:Int) (ss:List Jt) (rs:List Reg) (ms:List Int) (c:Call):Req×List Int×Int:=
 if We core op width ss.length c=false then (Zbd,[],1) else if ZfO ss c=true then (Zbd,[],4) else WD core op width ss rs ms c
def YB (p:Req×List Int×Int):=Zn5 p.1 p.2.1 p.2.2
theorem Zhm {ss:List Jt} {rs:List Reg} {c:Call} (h:Yq ss rs c=0):Yf c.offset c.bits=true∧0≤Wl rs c.offset c.bits∧Zem ss c.dest 1=false:=by
 unfold Yq at h
 split at h
 ·omega
 ·split at h
  ·omega
  ·split at h
   ·omega
   ·rename_i h1 h2 h3
    exact ⟨by simpa using h1,by omega,by simpa using h3⟩
theorem Zcj {ss:List Jt} (h:ZgG ss):ss.length≤70:=h.1
theorem Zez {ss:List Jt} (h:ZgG ss) {i:Int} (h0:0≤i) (h1:i < ss.length):(getS ss i).node.path.length≤20:=h.2 _ (Zje h0 h1)
set_option maxHeartbeats 4000000 in
theorem ZlO (core op width:Int) (ss:List Jt) (rs:List Reg) (ms:List Int) (c:Call) (hs:ZgG ss) (hr:rs.length < 2^63) (hm:ms.length < 2^63) (hw:wfB core ss.length c=true) (k i:Nat) (hi:(Yl c.kind c.slot c.dest c.count).length≤i) :
  Zdu (k+1) core op width (ss.map Z9) (rs.map WW) (Ze ms) c.kind c.slot c.dest c.core c.mask c.object c.bits c.level c.offset c.count c.index c.addr 0 0 0 0 0 0 0 0 0 0 0 0 0 0 0 0 0 0 0 0 E0 0 0 0 0 0 0 false (Ze (Yl c.kind c.slot c.dest c.count)) (Ze (Yl c.kind c.slot c.dest c.count)) (List.length (Ze (Yl c.kind c.slot c.dest c.count)):Int) (i:Int)=some (YB (WD core op width ss rs ms c)):=by
 have w:=of_decide_eq_true hw
 have hs1:=Zcj hs
 rw [Zex,ZQ,if_neg (YU hi)]
 unfold WD
 refine Zk (fun h1=>?_) fun h1=>?_
 ·simp only [CQ] at h1
  rw [if_pos h1]
  refine (congrArg (fun x=>Option.bind x _) (s31 ss rs c (by omega) hr (by omega) (by omega))).trans ?_
  rw [Option.bind_some]
  refine Zk (fun h2=>?_) fun h2=>?_
  ·simp only [CQ] at h2
   rw [if_pos h2];rfl
  ·simp only [CQ] at h2
   have h2':Yq ss rs c=0:=by omega
   rw [if_neg h2]
   refine (congrArg (fun x=>Option.bind x _) (s13 rs hr c.offset c.bits)).trans ?_
   rw [if_pos (Zhm h2').2.1,Option.bind_some]
   rfl
 ·simp only [CQ] at h1
  have a0:0≤c.slot:=by omega
  have a1:c.slot < ss.length:=by omega
  have hp:=Zez hs a0 a1
  rw [if_neg h1]
  refine (congrArg (fun x=>Option.bind x _) (s32 core width ss ms c (by omega) hm hw h1 (by omega))).trans ?_
  rw [Option.bind_some]
  refine (YE a0 a1 _).trans ?_
  refine (congrArg (fun x=>Option.bind x _) (s33 (getS ss c.slot).node (by omega))).trans ?_
  rw [Option.bind_some]
  refine (congrArg (fun x=>Option.bind x _) (s34 ..)).trans ?_
  rw [Option.bind_some]
  refine Zk (fun h2=>?_) fun h2=>?_
  ·simp only [CQ] at h2
   rw [if_pos h2];rfl
  ·simp only [CQ] at h2
   rw [if_neg h2]
   refine (congrArg (fun x=>Option.bind x _) (s13 rs hr (getS ss c.slot).node.cap.base (getS ss c.slot).node.cap.bits)).trans ?_
   by_cases h3:0≤Wl rs (getS ss c.slot).node.cap.base (getS ss c.slot).node.cap.bits
   ·rw [if_pos h3,if_neg (by omega),Option.bind_some];rfl
   ·rw [if_neg h3,if_pos (by omega),Option.bind_some];rfl
set_option maxHeartbeats 4000000 in
theorem ZlE (core op width:Int) (ss:List Jt) (rs:List Reg) (ms:List Int) (c:Call) (hs:ZgG ss) (hr:rs.length < 2^63) (hm:ms.length < 2^63) (hw:wfB core ss.length c=true) (k i:Nat) (hi:(Yl c.kind c.slot c.dest c.count).length≤i) :
  Zc5 (k+1) core op width (ss.map Z9) (rs.map WW) (Ze ms) c.kind c.slot c.dest c.core c.mask c.object c.bits c.level c.offset c.count c.index c.addr 0 0 0 0 0 0 0 0 0 0 0 0 0 0 0 0 0 0 0 0 E0 0 0 0 0 0 0 false 0 0 0 0 0 0 0 0 0 0 0 0 0 0 0 0 0 0 0 0 E0 0 0 0 0 0 0 false (Ze (Yl c.kind c.slot c.dest c.count)) (i:Int)=some (YB (WD core op width ss rs ms c)):=by
 have w:=of_decide_eq_true hw
 have hs1:=Zcj hs
 rw [ZeP,ZQ,if_neg (YU hi)]
 unfold WD
 refine Zk (fun h1=>?_) fun h1=>?_
 ·simp only [CQ] at h1
  rw [if_pos h1]
  refine (congrArg (fun x=>Option.bind x _) (s46 _ _)).trans ?_
  rw [Option.bind_some]
  cases hv:Yf c.offset c.bits with
  | false =>
   have hc:Yq ss rs c=6:=by unfold Yq;rw [if_pos hv]
   rw [hc];rfl
  | true =>
   have hv':¬ Yf c.offset c.bits=false:=by rw [hv];decide
   rw [if_neg (by simp)]
   refine (congrArg (fun x=>Option.bind x _) (s47 rs hr _ _)).trans ?_
   rw [Option.bind_some]
   refine Zk (fun h2=>?_) fun h2=>?_
   ·simp only [CQ] at h2
    have hc:Yq ss rs c=11:=by unfold Yq;rw [if_neg hv',if_pos h2]
    rw [hc];rfl
   ·simp only [CQ] at h2
    refine (congrArg (fun x=>Option.bind x _) (s48 ss (by omega) c.dest 1 (by omega) (by omega) (by omega))).trans ?_
    rw [Option.bind_some]
    refine Zk (fun h3=>?_) fun h3=>?_
    ·have hc:Yq ss rs c=3:=by unfold Yq;rw [if_neg hv',if_neg h2,if_pos h3]
     rw [hc];rfl
    ·have hc:Yq ss rs c=0:=by unfold Yq;rw [if_neg hv',if_neg h2,if_neg h3]
     rw [hc];rfl
 ·simp only [CQ] at h1
  have a0:0≤c.slot:=by omega
  have a1:c.slot < ss.length:=by omega
  have hp:=Zez hs a0 a1
  rw [if_neg h1]
  unfold Zl7
  refine (YE a0 a1 _).trans ?_
  refine (congrArg (fun x=>Option.bind x _) (s17 _)).trans ?_
  rw [Option.bind_some]
  refine Zk (fun h2=>?_) fun h2=>?_
  ·rw [if_pos h2];rfl
  ·rw [if_neg h2]
   refine (YE a0 a1 _).trans ?_
   refine (congrArg (fun x=>Option.bind x _) (s36 (getS ss c.slot).node (by omega))).trans ?_
   rw [Option.bind_some]
   refine (congrArg (fun x=>Option.bind x _) (s49 core width ss ms (getS ss c.slot).node c (by omega) hm hw)).trans ?_
   rw [Option.bind_some]
   refine Zk (fun h3=>?_) fun h3=>?_
   ·simp only [CQ] at h3
    rw [if_pos h3];rfl
   ·simp only [CQ] at h3
    rw [if_neg h3]
    refine (congrArg (fun x=>Option.bind x _) (s50 ..)).trans ?_
    rw [Option.bind_some]
    refine (congrArg (fun x=>Option.bind x _) (s47 rs hr (getS ss c.slot).node.cap.base (getS ss c.slot).node.cap.bits)).trans ?_
    rw [Option.bind_some]
    refine Zk (fun h4=>?_) fun h4=>?_
    ·simp only [CQ] at h4
     rw [if_pos h4];rfl
    ·simp only [CQ] at h4
     rw [if_neg h4];rfl
theorem ZeS (ss:List Jt) (c:Call) {α:Type} (a b:α):(if (List.range' 0 (Yl c.kind c.slot c.dest c.count).length).all (atB (fun i=>!ZaA (getS ss i)) (Yl c.kind c.slot c.dest c.count))=true then a else b)=if ZfO ss c=true then b else a:=by
 rw [ZeQ]
 unfold ZfO
 rw [List.any_eq_not_all_not]
 cases (Yl c.kind c.slot c.dest c.count).all (fun i=>!ZaA (getS ss i))<;>rfl
theorem Zao (c:Call) (hc:c.count≤1000):(Yl c.kind c.slot c.dest c.count).length≤1001:=by
 have h1:=ZjS ((JA c.kind c.slot c.dest c.count).mergeSort fun x y=>decide (x≤y))
 rw [List.length_mergeSort] at h1
 refine Nat.le_trans h1 ?_
 unfold JA
 split
 ·simp
 ·split
  ·simp;omega
  ·split<;>simp
set_option maxHeartbeats 4000000 in
theorem s11 (core op width:Int) (ss:List Jt) (rs:List Reg) (ms:List Int) (c:Call) (hs:ZgG ss) (hr:rs.length < 2^63) (hm:ms.length < 2^63) (hc:c.count≤1000) :
    g11 core op width (ss.map Z9) (rs.map WW) (Ze ms) c.kind c.slot c.dest c.core c.mask c.object c.bits c.level c.offset c.count c.index c.addr=some (YB (WE core op width ss rs ms c)):=by
  have hs1:=Zcj hs
  have hinv:g29 c.kind c.slot c.dest c.core c.mask c.object c.bits c.level c.offset c.count c.index c.addr=some (Ze (Yl c.kind c.slot c.dest c.count)):=by
    rw [Zlz]
    unfold Zng
    rw [Zp hc]
    rfl
  have main:wfB core ss.length c=true→Zdu Z2 core op width (ss.map Z9) (rs.map WW) (Ze ms) c.kind c.slot c.dest c.core c.mask c.object c.bits c.level c.offset c.count c.index c.addr 0 0 0 0 0 0 0 0 0 0 0 0 0 0 0 0 0 0 0 0 E0 0 0 0 0 0 0 false (Ze (Yl c.kind c.slot c.dest c.count)) (Ze (Yl c.kind c.slot c.dest c.count)) (List.length (Ze (Yl c.kind c.slot c.dest c.count)):Int) 0=some (YB (if ZfO ss c=true then (Zbd,[],4) else WD core op width ss rs ms c)):=fun hw=>by
    have:=VT (F:=fun k z=>Zdu k core op width (ss.map Z9) (rs.map WW) (Ze ms) c.kind c.slot c.dest c.core c.mask c.object c.bits c.level c.offset c.count c.index c.addr 0 0 0 0 0 0 0 0 0 0 0 0 0 0 0 0 0 0 0 0 E0 0 0 0 0 0 0 false (Ze (Yl c.kind c.slot c.dest c.count)) (Ze (Yl c.kind c.slot c.dest c.count)) (List.length (Ze (Yl c.kind c.slot c.dest c.count)):Int) z) (n:=(Yl c.kind c.slot c.dest c.count).length) (fin:=some (YB (WD core op width ss rs ms c))) (bad:=some (YB (Zbd,[],4))) (atB (fun i=>!ZaA (getS ss i)) (Yl c.kind c.slot c.dest c.count)) (by have:=Zao c hc;omega) 0 (by omega)
      (fun k i _ hi=>by
        show Zdu (k+1) core op width (ss.map Z9) (rs.map WW) (Ze ms) c.kind c.slot c.dest c.core c.mask c.object c.bits c.level c.offset c.count c.index c.addr 0 0 0 0 0 0 0 0 0 0 0 0 0 0 0 0 0 0 0 0 E0 0 0 0 0 0 0 false (Ze (Yl c.kind c.slot c.dest c.count)) (Ze (Yl c.kind c.slot c.dest c.count)) (List.length (Ze (Yl c.kind c.slot c.dest c.count)):Int) (i:Int)=_
        obtain ⟨b0,b1⟩:=Wr (by omega) hw _ (List.getElem_mem hi)
        have hlen:=Zao c hc
        rw [Zex,ZQ,if_pos (YY hi)]
        refine (Jl hi _).trans ?_
        refine (YE b0 b1 _).trans ?_
        refine (congrArg (fun x=>Option.bind x _) (s30 _)).trans ?_
        rw [Option.bind_some,YP hi (by omega),VG _ hi]
        cases ZaA (getS ss (Yl c.kind c.slot c.dest c.count)[i])<;>rfl)
      (fun k i hi=>ZlO core op width ss rs ms c hs hr hm hw k i hi)
    rw [Nat.sub_zero,ZeS] at this
    refine Eq.trans this ?_
    split<;>rfl
  have hw36:=s28 core ss.length c (by omega) (by omega)
  rw [ZmN,List.length_map,hw36,hinv]
  simp only [Option.bind_some]
  unfold WE
  by_cases ha:We core op width ss.length c=false
  · rw [if_pos ha]
    unfold We at ha
    repeat' (with_reducible refine Zk (fun _=>?_) (fun _=>?_))
    all_goals first
      | rfl
      | (exfalso; simp only [CQ] at *; rw [Bool.and_eq_false_iff, decide_eq_false_iff_not] at ha; rename_i hlast; (try simp only [Bool.not_eq_true, Bool.not_eq_false'] at hlast); rcases ha with ha | ha
         · omega
         · rw [ha] at hlast;cases hlast)
  · rw [if_neg ha]
    have ha':We core op width ss.length c=true:=by simpa using ha
    unfold We at ha'
    rw [Bool.and_eq_true,decide_eq_true_eq] at ha'
    obtain ⟨a1,hw⟩:=ha'
    rw [hw,← main hw]
    repeat' (with_reducible refine Zk (fun _=>?_) (fun _=>?_))
    all_goals first
      | rfl
      | (exfalso; simp only [CQ, Bool.not_true, Bool.false_eq_true] at * <;> omega)
set_option maxHeartbeats 4000000 in
theorem s25 (core op width:Int) (ss:List Jt) (rs:List Reg) (ms:List Int) (c:Call) (hs:ZgG ss) (hr:rs.length < 2^63) (hm:ms.length < 2^63) (hc:c.count≤1000) :
    g25 core op width (ss.map Z9) (rs.map WW) (Ze ms) c.kind c.slot c.dest c.core c.mask c.object c.bits c.level c.offset c.count c.index c.addr=some (YB (WE core op width ss rs ms c)):=by
  have hs1:=Zcj hs
  have main:wfB core ss.length c=true→Zc5 Z2 core op width (ss.map Z9) (rs.map WW) (Ze ms) c.kind c.slot c.dest c.core c.mask c.object c.bits c.level c.offset c.count c.index c.addr 0 0 0 0 0 0 0 0 0 0 0 0 0 0 0 0 0 0 0 0 E0 0 0 0 0 0 0 false 0 0 0 0 0 0 0 0 0 0 0 0 0 0 0 0 0 0 0 0 E0 0 0 0 0 0 0 false (Ze (Yl c.kind c.slot c.dest c.count)) 0=some (YB (if ZfO ss c=true then (Zbd,[],4) else WD core op width ss rs ms c)):=fun hw=>by
    have:=VT (F:=fun k z=>Zc5 k core op width (ss.map Z9) (rs.map WW) (Ze ms) c.kind c.slot c.dest c.core c.mask c.object c.bits c.level c.offset c.count c.index c.addr 0 0 0 0 0 0 0 0 0 0 0 0 0 0 0 0 0 0 0 0 E0 0 0 0 0 0 0 false 0 0 0 0 0 0 0 0 0 0 0 0 0 0 0 0 0 0 0 0 E0 0 0 0 0 0 0 false (Ze (Yl c.kind c.slot c.dest c.count)) z) (n:=(Yl c.kind c.slot c.dest c.count).length) (fin:=some (YB (WD core op width ss rs ms c))) (bad:=some (YB (Zbd,[],4))) (atB (fun i=>!ZaA (getS ss i)) (Yl c.kind c.slot c.dest c.count)) (by have:=Zao c hc;omega) 0 (by omega)
      (fun k i _ hi=>by
        show Zc5 (k+1) core op width (ss.map Z9) (rs.map WW) (Ze ms) c.kind c.slot c.dest c.core c.mask c.object c.bits c.level c.offset c.count c.index c.addr 0 0 0 0 0 0 0 0 0 0 0 0 0 0 0 0 0 0 0 0 E0 0 0 0 0 0 0 false 0 0 0 0 0 0 0 0 0 0 0 0 0 0 0 0 0 0 0 0 E0 0 0 0 0 0 0 false (Ze (Yl c.kind c.slot c.dest c.count)) (i:Int)=_
        obtain ⟨b0,b1⟩:=Wr (by omega) hw _ (List.getElem_mem hi)
        have hlen:=Zao c hc
        rw [ZeP,ZQ,if_pos (YY hi)]
        refine (Jl hi _).trans ?_
        refine (YE b0 b1 _).trans ?_
        refine (congrArg (fun x=>Option.bind x _) (s45 _)).trans ?_
        rw [Option.bind_some,YP hi (by omega),VG _ hi]
        cases ZaA (getS ss (Yl c.kind c.slot c.dest c.count)[i])<;>rfl)
      (fun k i hi=>ZlE core op width ss rs ms c hs hr hm hw k i hi)
    rw [Nat.sub_zero,ZeS] at this
    refine Eq.trans this ?_
    split<;>rfl
  by_cases hk:1≤c.kind∧c.kind≤6
  · have hw57:=s43 core ss.length c (by omega) (by omega) hk.1 hk.2
    rw [Zj2,List.length_map,hw57]
    simp only [Option.bind_some]
    unfold WE
    by_cases ha:We core op width ss.length c=false
    · rw [if_pos ha]
      unfold We at ha
      repeat' (with_reducible refine Zk (fun _=>?_) (fun _=>?_))
      all_goals first
        | rfl
        | (exfalso; simp only [CQ] at *; rw [Bool.and_eq_false_iff, decide_eq_false_iff_not] at ha; rename_i hlast; (try simp only [Bool.not_eq_true, Bool.not_eq_false'] at hlast); rcases ha with ha | ha
           · omega
           · rw [ha] at hlast;cases hlast)
    · rw [if_neg ha]
      have ha':We core op width ss.length c=true:=by simpa using ha
      unfold We at ha'
      rw [Bool.and_eq_true,decide_eq_true_eq] at ha'
      obtain ⟨a1,hw⟩:=ha'
      rw [hw,s44 core ss.length c (by omega) hw,← main hw]
      repeat' (with_reducible refine Zk (fun _=>?_) (fun _=>?_))
      all_goals first
        | rfl
        | (exfalso; simp only [CQ, Bool.not_true, Bool.false_eq_true] at * <;> omega)
  · have ha:We core op width ss.length c=false:=by
      cases h:We core op width ss.length c with
      | false => rfl
      | true => exact absurd (Zkb (core := core) (n := ss.length) (by unfold We at h; rw [Bool.and_eq_true] at h; exact h.2)) hk
    unfold WE
    rw [if_pos ha,Zj2]
    refine Zk (fun _=>rfl) fun h1=>?_
    refine Zk (fun _=>rfl) fun h2=>?_
    exfalso
    simp only [CQ] at h1 h2
    omega
end Go.Proofs.YtmjkdbpffdampaaGreat
end

section
namespace Go.Proofs.YtmjkdbpffdampaaGreat
open Go Go.AM
set_option linter.unusedSimpArgs false
set_option linter.unusedVariables false
set_option maxRecDepth 100000
def ZnH (r:LL×Int×Int×LL×LL):Prop:=∃ (n p:Int) (ws:List Int) (rs:List Reg) (os:List Int),r=(Ze ws,n,p,rs.map WW,Ze os)∧1≤ws.length∧ws.length≤4∧1≤rs.length∧rs.length≤3
theorem ZoH (l:List Int) (x1 x4 x5:LL) (x2 x3:Int) (ws:List Int) (h1:1≤ws.length) (h2:ws.length≤4) (x7 x8:Int) (h7:1≤x7) (h7':x7 < 100) (q:Nat) (hq1:1≤q) (hq:q≤3) :
  Ret ZnH (Zhp Z2 (Ze l) x1 x2 x3 x4 x5 (Ze ws) x7 x8 E0 E0 (q:Int) 0):=by
 refine Yz (F:=fun k (s:LL×LL) z=>Zhp k (Ze l) x1 x2 x3 x4 x5 (Ze ws) x7 x8 s.1 s.2 (q:Int) z) q (fun i s=>∃ (rs:List Reg) (os:List Int),s=(rs.map WW,Ze os)∧rs.length=i∧os.length=i) (by omega) ?_ (E0,E0) ⟨[],[],rfl,rfl,rfl⟩
 rintro k i s hi ⟨rs,os,rfl,hr,ho⟩ next
 refine Ju (ZiW ..) ?_
 refine Zj (fun hlt=>?_) fun hge=>?_
 ·simp only [CQ] at hlt
  refine Zi (by decide) ?_
  refine Zd (Jb l _) fun v1 _=>Zd (place v1 3 (by decide) (by decide)) fun b _=>Zd (Jb l _) fun v2 _=>Zd (place v2 5 (by decide) (by decide)) fun d _=>?_
  refine Zi (JM (by simp;omega)) (Zi (JM (by simp;omega)) (Zi (JM (by simp [ZQ];omega)) ?_))
  refine Zd (Jb l _) fun v3 _=>Zd (place v3 x7 h7 (by omega)) fun w _=>?_
  refine Zi (JM (by simp [ZQ];omega)) ?_
  simp only [Zeu hi (by omega)]
  exact next (by omega) (_,_) ⟨rs++[⟨iop .shl .i64 ((i+1:Nat):Int) 18,iop .add .i64 15 b,cop .eql d 4⟩],os++[w],by simp [Ze,Zlb,WW],by simp [hr],by simp [ho]⟩
 ·simp only [CQ] at hge
  exact Zh ⟨_,_,ws,rs,os,rfl,h1,h2,by omega,by omega⟩
theorem s14 (l:List Int):Ret ZnH (g14 (Ze l)):=by
 rw [Zmh]
 refine Zd (Jb l 0) fun v1 _=>Zd (place v1 4 (by decide) (by decide)) fun a ha=>?_
 have ea:iop .add .i64 1 a=1+a:=Jp (by omega) (by omega)
 rw [ea]
 refine Zd (Jb l 1) fun v2 _=>Zd (place v2 (1+a) (by omega) (by omega)) fun b hb=>?_
 refine Zd (Jb l 2) fun v3 _=>Zd (place v3 7 (by decide) (by decide)) fun c hc=>Zd (Jb l 3) fun v4 _=>Zd (place v4 3 (by decide) (by decide)) fun d hd=>?_
 have eb:iop .add .i64 1 b=1+b:=Jp (by omega) (by omega)
 have ed:iop .add .i64 1 d=1+d:=Jp (by omega) (by omega)
 rw [eb,ed]
 obtain ⟨n,hn⟩:∃ n:Nat,1+a=n:=⟨(1+a).toNat,by omega⟩
 obtain ⟨q,hq⟩:∃ q:Nat,1+d=q:=⟨(1+d).toNat,by omega⟩
 rw [hn,hq]
 refine Yz (F:=fun k (s:LL) z=>ZiF k (Ze l) E0 0 0 E0 E0 (n:Int) s (1+b) (iop .add .i64 4 c) E0 E0 (q:Int) z) n (fun i s=>∃ ws,s=Ze ws∧ws.length=i) (by omega) ?_ E0 ⟨[],rfl,rfl⟩
 rintro k i s hi ⟨ws,rfl,hw⟩ next
 refine Ju (ZjB ..) ?_
 refine Zj (fun hlt=>?_) fun hge=>?_
 ·simp only [CQ] at hlt
  refine Zi (JM (by simp [ZQ];omega)) ?_
  refine Zd (Jb l _) fun v _=>Zd (place v 2 (by decide) (by decide)) fun w hw'=>?_
  refine Zbr hw'.1 hw'.2 fun x _=>?_
  refine Zi (JM (by simp [ZQ];omega)) ?_
  rw [Zeu hi (by omega)]
  exact next (by omega) _ ⟨ws++[x],by simp [Ze,Zlb],by simp [hw]⟩
 ·simp only [CQ] at hge
  exact ZoH l _ _ _ _ _ ws (by omega) (by omega) (1+b) _ (by omega) (by omega) q (by omega) (by omega)
theorem s5 (l:List Int):Ret ZnH (g5 (Ze l)):=by
 rw [ZnD]
 refine Zd (s14 l) fun r ⟨n,p,ws,rs,os,e,h⟩=>?_
 subst e
 exact Zh ⟨_,_,ws,rs,os,rfl,h⟩
theorem Zig (z:Int):0≤IntKind.u64.wrap z:=by
 simp only [IntKind.wrap]
 have:IntKind.u64.signed=false:=rfl
 simp [this,IntKind.bits]
 omega
theorem s23 (a b:Int):Ret (fun _=>True) (g23 a b):=by
 rw [Zly]
 refine Zd (place _ _ (by decide) (by decide)) fun _ _=>Zi (by decide) (Zi (by decide) (Zd (place _ _ (by decide) (by decide)) fun _ _=>Zj (fun _=>?_) fun _=>?_))
 ·exact Zi (by decide) (Zd (place _ _ (by decide) (by decide)) fun _ _=>Zi (by decide) (Zh trivial))
 ·exact Zi (by decide) (Zd (place _ _ (by decide) (by decide)) fun _ _=>Zi (by decide) (Zi (by decide) (Zd (place _ _ (by decide) (by decide)) fun _ _=>Zi (by decide) (Zh trivial))))
def ZnM (c:Call):Qt13:=(c.kind,c.slot,c.dest,c.core,c.mask,c.object,c.bits,c.level,c.offset,c.count,c.index,c.addr)
theorem ZcR {γ:Type} {P:γ→Prop} {l:List Reg} {z:Int} {k:(Int×Int×Bool)→Option γ} (h0:0≤z) (h:z.toNat < l.length) (hk:∀ r,Ret P (k r)):Ret P (Zq (l.map WW) z [.int .i64,.int .i64,.bool] k):=by
 have e:z=((z.toNat:Nat):Int):=by omega
 have:=Zaz h k
 rw [← e] at this
 exact Ju this (hk _)
def Zli (r:Qt13):Prop:=∃ c:Call,r=ZnM c∧c.count≤1000
theorem Zag {a b d e f g h i j k l m:Int} (hk:k≤1000):Ret Zli (some ((a,b,d,e,f,g,h,i,j,k,l,m):Qt13)):=Zh ⟨⟨a,b,d,e,f,g,h,i,j,k,l,m⟩,rfl,hk⟩
theorem s9 (ws:List Int) (n:Int) (rs:List Reg) (os:LL) (k w0 w1 w2 w3 w4 w5 w6 w7 w8:Int) (h1:1≤ws.length) (h2:ws.length≤4) (h3:1≤rs.length) (h4:rs.length≤3) :
  Ret Zli (g9 (Ze ws) n 12 (rs.map WW) os k w0 w1 w2 w3 w4 w5 w6 w7 w8):=by
 rw [Zn8]
 refine Zd (place _ _ (by decide) (by decide)) fun a ha=>Zd (place _ _ (by decide) (by decide)) fun b hb=>Zd (place _ _ (by decide) (by decide)) fun d hd=>Zd (place _ _ (by decide) (by decide)) fun e he=>?_
 have lr:(List.length (rs.map WW):Int)=rs.length:=by simp
 have lw:(List.length (Ze ws):Int)=ws.length:=by simp [ZQ]
 refine Zj (fun _=>?_) fun _=>Zj (fun _=>?_) fun _=>Zj (fun _=>?_) fun _=>Zj (fun _=>?_) fun _=>Zj (fun _=>?_) fun _=>Zj (fun _=>?_) fun _=>Zag (by decide)
 ·rw [lr]
  refine Zd (place _ _ (by omega) (by omega)) fun r hr=>ZcR hr.1 (by omega) fun g=>Zd (place _ _ (by decide) (by decide)) fun x hx=>Zd (place _ _ (by decide) (by decide)) fun y _=>?_
  refine Zi (Zig _) (Zag (by decide))
 ·refine Zd (place _ _ (by decide) (by decide)) fun x hx=>Zd (place _ _ (by decide) (by decide)) fun y hy=>?_
  rw [show iop .sub .i64 (iop .add .i64 1 x) 1=x by rw [Jp (by omega) (by omega),ZdM (by omega) (by omega)];omega]
  refine YL (l:=[iop .add .i64 12 y,12,12,6,10,16]) hx.1 (by simp;omega) ?_
  refine Zd (place _ _ (by decide) (by decide)) fun _ _=>Zd (place _ _ (by decide) (by decide)) fun z hz=>Zd (place _ _ (by decide) (by decide)) fun _ _=>Zi ?_ (Zag ?_)
  ·refine Zig _
  ·rw [Jp (by omega) (by omega)];omega
 ·rw [lw]
  exact Zd (place _ _ (by omega) (by omega)) fun _ _=>Zag (by decide)
 ·exact Zd (place _ _ (by decide) (by decide)) fun _ _=>Zag (by decide)
 ·exact Zd (place _ _ (by decide) (by decide)) fun _ _=>Zag (by decide)
 ·refine Zd (place _ _ (by decide) (by decide)) fun _ _=>?_
  rw [lw]
  exact Zd (place _ _ (by omega) (by omega)) fun v hv=>YL hv.1 (by omega) (Zd (s23 _ _) fun _ _=>Zag (by decide))
theorem Zip {ss:List Jt} (h:ZgG ss) (i:Int):(getS ss i).node.path.length≤20:=by
 unfold getS
 cases e:ss[i.toNat]? with
 | none => exact Nat.zero_le _
 | some s => exact h.2 _ (List.mem_of_getElem? e)
theorem ZhB {core op width:Int} {ss:List Jt} {rs:List Reg} {ms:List Int} {c:Call} (h:ZgG ss):(WE core op width ss rs ms c).1.src.path.length≤20:=by
 unfold WE WD
 repeat' split
 all_goals first
  | exact Zip h _
  | exact Nat.zero_le _
theorem s10 (core op width:Int) (ss:List Jt) (rs:List Reg) (ms:List Int) (c:Call) (hs:ZgG ss) (hr:rs.length≤100) (hm:ms.length≤100) (hc:c.count≤1000) :
  g10 core op width (ss.map Z9) (rs.map WW) (Ze ms) c.kind c.slot c.dest c.core c.mask c.object c.bits c.level c.offset c.count c.index c.addr=some true:=by
 rw [Zmb,s24 ss hs,Option.bind_some,Zp (JM (by simp;omega)),Zp (JM (by simp [ZQ];omega)),s11 core op width ss rs ms c hs (by omega) (by omega) hc,s25 core op width ss rs ms c hs (by omega) (by omega) hc]
 have hp:=ZhB (core:=core) (op:=op) (width:=width) (ss:=ss) (rs:=rs) (ms:=ms) (c:=c) hs
 have hl:(WE core op width ss rs ms c).2.1.length≤1001:=by
  have:=Zao c hc
  unfold WE WD
  repeat' split
  all_goals first
   | exact this
   | exact Nat.zero_le _
 generalize WE core op width ss rs ms c=p at hp hl
 obtain ⟨r,l,e⟩:=p
 rw [Option.bind_some,Option.bind_some]
 refine (congrArg (fun x=>Option.bind x _) (s26 r r (by simp only at hp;omega) (by simp only at hp;omega))).trans ?_
 rw [ZfV r,Option.bind_some,if_pos rfl]
 refine (congrArg (fun x=>Option.bind x _) (s27 l l (by simp only at hl;omega))).trans ?_
 rw [ZfS ZhA (fun a=>decide_eq_true rfl),Option.bind_some,if_pos rfl]
 refine congrArg some ?_
 simp [cop]
theorem Zc6:Yl 1 0 2 0 = [2]:=by
 obtain ⟨h1,h2⟩:=Zed 1 0 2 0
 exact ZbO h1 (List.pairwise_singleton _ _) fun x=>(h2 x).trans (by simp [JA])
def awC:Call:=⟨1,0,2,0,0,0,14,0,262144,0,0,0⟩
def awS:List Jt:=List.replicate 4 ZjI
def awR:List Reg:=[⟨262144,16,false⟩]
theorem Zke:WE 1 5 32 awS awR [0,1] awC=(⟨⟨1,5,0⟩,awC,0,32,JW⟩,[2],0):=by
 have hb:ZfO awS awC=false:=by
  show List.any (Yl 1 0 2 0) _=false
  rw [Zc6];kernel_rfl
 unfold WE
 rw [hb,if_neg (show ¬ We 1 5 32 awS.length awC=false by decide),if_neg (by decide)]
 unfold WD
 rw [if_pos (show awC.kind=1 from rfl),if_neg (show ¬ Yq awS awR awC≠0 from not_not_intro (by kernel_rfl))]
 show (_,Yl 1 0 2 0,_)=_
 rw [Zc6];kernel_rfl
theorem s4:g4=some true:=by
 rw [Zoc,Zp (by decide),Zp (by decide),Zp (by decide)]
 simp only [Zm0,Option.bind_some]
 refine (congrArg (fun x=>Option.bind x _) ((s11 1 5 32 awS awR [0,1] awC ⟨by decide,by decide⟩ (by decide) (by decide) (by decide)).trans (congrArg (fun x=>some (YB x)) Zke))).trans ?_
 rw [Option.bind_some]
 refine (congrArg (fun x=>Option.bind x _) (s13 awR (by decide) 262144 12)).trans ?_
 kernel_rfl
theorem s3 (a l:List Int) (st:List ZkQ) (hst:st.length < 2^63) (k o w0 w1 w2 w3 w4 w5 w6 w7 w8 off:Int):g3 (Ze a) (Ze l) (st.map Wj) k o w0 w1 w2 w3 w4 w5 w6 w7 w8 off=some true:=by
 suffices h:Ret (fun r=>r=true) (g3 (Ze a) (Ze l) (st.map Wj) k o w0 w1 w2 w3 w4 w5 w6 w7 w8 off) by
  obtain ⟨r,e,rfl⟩:=h
  exact e
 rw [ZnC]
 refine Zj (fun _=>Yy s4 (Zh rfl)) fun _=>?_
 refine Zd (s5 a) fun r ⟨n,p,ws,rs,os,e,hw1,hw2,hr1,hr2⟩=>?_
 subst e
 refine Zd (place k 4 (by decide) (by decide)) fun core _=>Zd (s8 st hst) fun r ⟨m,hf,e⟩=>?_
 subst e
 refine Zd (s7 l m 30 hf (by decide) core) fun r ⟨s,e,hs,_⟩=>?_
 subst e
 refine Zd (s9 ws n rs (Ze os) core w0 w1 w2 w3 w4 w5 w6 w7 w8 hw1 hw2 hr1 hr2) fun r ⟨c,e,hc⟩=>?_
 subst e
 have fs:=hs.few hf
 refine Zj (fun _=>?_) fun _=>?_
 ·refine Zd (place off 131072 (by decide) (by decide)) fun v _=>Zd (place o 30 (by decide) (by decide)) fun v2 _=>?_
  refine Yy (s10 core (iop .add .i64 1 v2) 32 s.slots [⟨0,15,false⟩,⟨32768,15,false⟩,⟨262144,16,false⟩] [0,1,2] { c with offset:=iop .andNot .i64 v 4095 } fs (by decide) (by decide) hc) ?_
  exact Zj (fun _=>Yy s4 (Zh rfl)) fun h=>absurd rfl h
 ·refine Zd (place o 30 (by decide) (by decide)) fun v2 _=>?_
  refine Yy (s10 core (iop .add .i64 1 v2) 32 s.slots [⟨0,15,false⟩,⟨32768,15,false⟩,⟨262144,16,false⟩] [0,1,2] c fs (by decide) (by decide) hc) ?_
  exact Zj (fun _=>Yy s4 (Zh rfl)) fun h=>absurd rfl h
theorem ZkB {d:Nat} {cs:List AV} (h:TyR Tryz.prog (d+2) 25 cs):∃ w0 w1 w2 w3 w4 w5 w6 w7 w8,cs = [I w0,I w1,I w2,I w3,I w4,I w5,I w6,I w7,I w8]:=by
 rw [TyR] at h
 simp only [Tryz.underlying25] at h
 obtain ⟨ps,rfl,hl,hp⟩:=h
 obtain ⟨p0,p1,p2,p3,p4,p5,p6,p7,p8,rfl⟩:∃ p0 p1 p2 p3 p4 p5 p6 p7 p8,ps = [p0,p1,p2,p3,p4,p5,p6,p7,p8]:=by
  match ps,hl with
  | [p0, p1, p2, p3, p4, p5, p6, p7, p8], _ => exact ⟨p0, p1, p2, p3, p4, p5, p6, p7, p8, rfl⟩
 obtain ⟨w0,rfl⟩:=JV (hp 0 _ _ rfl rfl)
 obtain ⟨w1,rfl⟩:=JV (hp 1 _ _ rfl rfl)
 obtain ⟨w2,rfl⟩:=JV (hp 2 _ _ rfl rfl)
 obtain ⟨w3,rfl⟩:=JV (hp 3 _ _ rfl rfl)
 obtain ⟨w4,rfl⟩:=JV (hp 4 _ _ rfl rfl)
 obtain ⟨w5,rfl⟩:=JV (hp 5 _ _ rfl rfl)
 obtain ⟨w6,rfl⟩:=JV (hp 6 _ _ rfl rfl)
 obtain ⟨w7,rfl⟩:=JV (hp 7 _ _ rfl rfl)
 obtain ⟨w8,rfl⟩:=JV (hp 8 _ _ rfl rfl)
 exact ⟨w0,w1,w2,w3,w4,w5,w6,w7,w8,rfl⟩
theorem Zja {x:AV} (h:VO Tryz.prog 12 25 x):∃ w0 w1 w2 w3 w4 w5 w6 w7 w8,x = .agg [I w0,I w1,I w2,I w3,I w4,I w5,I w6,I w7,I w8]:=by
 simp only [VO,Tryz.underlying25] at h
 obtain ⟨cs,rfl,h⟩:=h
 obtain ⟨w0,w1,w2,w3,w4,w5,w6,w7,w8,rfl⟩:=ZkB h
 exact ⟨w0,w1,w2,w3,w4,w5,w6,w7,w8,rfl⟩
end Go.Proofs.YtmjkdbpffdampaaGreat
end
