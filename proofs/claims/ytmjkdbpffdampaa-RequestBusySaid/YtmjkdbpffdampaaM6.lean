/- EndA, A11a, A11b, A12a, A12d, A18a, A18b, A18c, A18d, A18e, A18f, A18g, A18h, A18i, A18j, A24a, A24c, A24d, AL23a, AL23b, AL23c, AL23d, AJ11a, AJ11b, AL23f, AL23g, AL23h, AL23i, AL23j, AG11b, Aa, Ab, Ac, Ad: texts of the proof, put together. -/
import Derived.Test.YtmjkdbpffdampaaRows
import Derived.Test.YtmjkdbpffdampaaChecked
import Derived.Test.YtmjkdbpffdampaaM4
import Derived.JoinedOf
import Derived.JoinedAt
import Derived.RowKit3
import Derived.KernelRfl
import Derived.Test.YtmjkdbpffdampaaFAf

section
namespace Go.Proofs.Ytmjkdbpffdampaa
open Go Go.AM
set_option maxRecDepth 100000
theorem behind : ∃ ws, behindMainWord (wordsSigns Try.prog.initOrder.toList) = "cut".toList :: ws := by
 have h:Try.prog.initOrder.toList=_:=String.toList_ofList (l:=_)
 rw [h]
 exact ZdH (by kernel_rfl) (by kernel_rfl) (by kernel_rfl) (by kernel_rfl) (by kernel_rfl) (by kernel_rfl)
theorem ZjH:Try.prog.mayEnter=true:=behind.elim fun _ h=>Go.AM.enters_of h (by kernel_rfl) (by kernel_rfl) (by kernel_rfl)
theorem Znm:Try.prog.liftsFinal=false:=behind.elim fun _ h=>Go.AM.final_of h
theorem ZjT:Try.prog.make=some .cut:=behind.elim fun _ h=>Go.AM.make_of h
theorem ZoF:laidOutB Try.prog=true:=by kernel_rfl
theorem Zdb:ownKnob Try.prog.godebug=none:=by kernel_rfl
theorem JW {d:Nat} {cs:List AV} (h:TyR Try.prog (d+1) 3 cs):∃ z,cs = [I z]:=by
 simp only [TyR,Try.underlying3] at h
 obtain ⟨z,h,_⟩:=h
 exact ⟨z,h⟩
theorem Zeq {d:Nat} {cs:List AV} (h:TyR Try.prog (d+1) 4 cs):∃ z,cs = [B z]:=by
 simp only [TyR,Try.underlying4] at h
 exact h
theorem arg_int {x:AV} (h:KY Try.prog 12 3 x):∃ z,x=I z:=by
 simp only [KY,Try.underlying3] at h
 obtain ⟨z,hz⟩:=JW h.2
 exact ⟨z,by simpa using hz⟩
def Zl4 (z:Int):List AV:=[I z]
def Zb (l:List Int):List (List AV):=l.map Zl4
structure Id where
 core:Int
 op:Int
 part:Int
 deriving DecidableEq
def idc (i:Id):List AV:=[I i.core,I i.op,I i.part]
def Zf (l:List Id):List (List AV):=l.map idc
theorem Zai {α β:Type} {f:α→β} {p:α→Prop} : ∀ (xs:List β),(∀ x∈xs,∃ a,x=f a∧p a)→∃ l:List α,xs=l.map f∧∀ a∈l,p a
 | [], _ => ⟨[], rfl, by simp⟩
 | x :: xs, h => by
  obtain ⟨a,h1,h2⟩:=h x (by simp)
  obtain ⟨l,h3,h4⟩:=Zai xs fun y hy=>h y (by simp [hy])
  refine ⟨a::l,by rw [h1,h3];rfl,fun b hb=>?_⟩
  rcases List.mem_cons.1 hb with rfl | hb
  ·exact h2
  ·exact h4 b hb
theorem ZlO:Try.prog.cellsOf 3=1:=by kernel_rfl
theorem Zjf {x:AV} (h:KY Try.prog 12 22 x):∃ l,x = .slice false 1 (Zb l)∧l.length≤maxLen:=by
 simp only [KY,Try.underlying22] at h
 have hh:=h.2
 rw [TyR] at hh
 simp only [Try.underlying22,ZlO] at hh
 obtain ⟨xs,h1,h2,h3⟩:=hh
 obtain ⟨l,rfl,h5⟩:=Zai (f:=Zl4) (p:=fun _=>True) xs fun y hy=>by
  have:=h3 y hy
  rw [TyR] at this
  simp only [Try.underlying3] at this
  obtain ⟨z,rfl,hz⟩:=this
  exact ⟨z,rfl,trivial⟩
 exact ⟨l,by simpa [Zb] using h1,by simpa using h2⟩
def ZiC:List TypeId:=[3,4,22,23,25]
theorem Zmt (t:TypeId) (h:ZiC.contains t=true):WE Try.prog 12 t=true∧t < Try.prog.types.size∧Try.prog.readableRec t=true:=by
 have h2:ZiC.all (fun t=>WE Try.prog 12 t&&decide (t < Try.prog.types.size)&&Try.prog.readableRec t)=true:=by kernel_rfl
 rw [List.all_eq_true] at h2
 have:=h2 t (by simpa using h)
 simpa [and_assoc] using this
end Go.Proofs.Ytmjkdbpffdampaa
end

section
namespace Go.Proofs.Ytmjkdbpffdampaa
open Go Go.AM
set_option linter.unusedSimpArgs false
set_option linter.unusedVariables false
set_option maxRecDepth 100000
def Ki (k b:Int):Bool:=decide ((k=1∧6≤b∧b≤40)∨(k=2∧12≤b∧b≤40)∨(k=3∧b=12)∨(k=4∧b=6)∨(k=5∧b=10)∨(k=6∧b=16))
theorem s80 (k b:Int):g80 k b=some (Ki k b):=by
 rw [Znd]
 repeat' split
 all_goals (refine congrArg some ?_;rw [ZV];simp only [Ki,CQ] at *; omega)
def Zev (k:Int):Int:=if k=3 then 12 else if k=4 then 6 else if k=5 then 10 else if k=6 then 16 else 0
theorem s85 (k:Int):g85 k=some (Zev k):=by
 rw [ZmJ]
 simp only [CQ,Zev]
 repeat' split
 all_goals first | rfl | omega
theorem s73 (k b:Int):g73 k b=some (Ki k b):=by
 rw [ZlK]
 simp only [s85,Option.bind_some]
 repeat' split
 all_goals (refine congrArg some ?_;rw [ZV];simp only [Ki,CQ] at *; first | omega | (rcases (by omega:k=3∨k=4∨k=5∨k=6) with rfl | rfl | rfl | rfl<;>simp [Zev]))
def Wz (w l:Int):Bool:=decide ((w=32∧0≤l∧l≤1)∨(w=39∧0≤l∧l≤2))
theorem s81 (w l:Int):g81 w l=some (Wz w l):=by
 rw [ZlL]
 repeat' split
 all_goals (refine congrArg some ?_;rw [ZV];simp only [Wz,CQ] at *; omega)
theorem s74 (w l:Int):g74 w l=some (Wz w l):=by
 rw [Zm3]
 repeat' split
 all_goals (refine congrArg some ?_;rw [ZV];simp only [Wz,CQ] at *; omega)
def Yl (a b:Int):Bool:=decide (6≤b∧b≤40∧0≤a∧a % 2^b.toNat=0∧a+2^b.toNat≤1099511627776)
theorem Zfy {b:Int} (h:b≤40):(2:Int)^b.toNat≤1099511627776:=by
 have:=Zhx (m:=b.toNat) (n:=40) (by omega)
 have e:(2:Int)^40=1099511627776:=by decide
 omega
theorem Zeb {a:Int} {n:Nat} (h:0≤a):iop .rem .i64 a (2^n)=a % 2^n:=Int.tmod_eq_emod_of_nonneg h
theorem Zm8 {b:Int} (h:b≤40):iop .sub .i64 1099511627776 (2^b.toNat)=1099511627776-2^b.toNat:=by
 have:=Zfy h
 have:=JR b.toNat
 exact Wf (by omega) (by omega)
theorem s56 (a b:Int):g56 a b=some (Yl a b):=by
 have hp:=JR b.toNat
 rw [Zly]
 by_cases h1:6≤b∧b≤40∧0≤a
 ·obtain ⟨h1,h2,h3⟩:=h1
  have hs:iop .shl .i64 1 b=2^b.toNat:=Zlr (by omega)
  have hr:Zj ((0:Int)≤b)=fun (x:Option Bool)=>x:=funext fun x=>ZO (by omega) x
  have hn:Zj (((2:Int)^b.toNat)≠0)=fun (x:Option Bool)=>x:=funext fun x=>ZO (by omega) x
  simp only [hs,hr,hn,Zeb h3,Zm8 h2]
  repeat' split
  all_goals (refine congrArg some ?_;rw [ZV];simp only [Yl,CQ] at *; omega)
 ·have hf:Yl a b=false:=by simp only [Yl,decide_eq_false_iff_not];omega
  rw [hf]
  repeat' split
  all_goals first | rfl | (exfalso;simp only [CQ] at *; omega)
theorem s66 (a b:Int):g66 a b=some (Yl a b):=by
 have hp:=JR b.toNat
 rw [Zl7]
 by_cases h1:6≤b∧b≤40∧0≤a
 ·obtain ⟨h1,h2,h3⟩:=h1
  have hw:IntKind.wrap .u64 b=b:=Y8 (by omega) (by omega)
  have hs:iop .shl .i64 1 b=2^b.toNat:=Zlr (by omega)
  have hr:Zj ((0:Int)≤b)=fun (x:Option Bool)=>x:=funext fun x=>ZO (by omega) x
  have hn:Zj (((2:Int)^b.toNat)≠0)=fun (x:Option Bool)=>x:=funext fun x=>ZO (by omega) x
  have h40:=Zfy h2
  simp only [hw,hs,hr,hn,Zeb h3]
  repeat' split
  all_goals (refine congrArg some ?_;rw [ZV];simp only [Yl,CQ] at *; first | omega | (rw [Jj (by omega) (by omega)] at *; omega))
 ·have hf:Yl a b=false:=by simp only [Yl,decide_eq_false_iff_not];omega
  rw [hf]
  repeat' split
  all_goals first | rfl | (exfalso;simp only [CQ] at *; omega)
def K9 (a b:Int):Int:=if Yl a b=true then a+2^b.toNat else 0
theorem WI {a b:Int} (h:Yl a b=true):6≤b∧b≤40∧0≤a∧a % 2^b.toNat=0∧a+2^b.toNat≤1099511627776:=by simpa [Yl] using h
theorem Zhd {a b:Int} (h:Yl a b=true):iop .add .i64 a (iop .shl .i64 1 b)=K9 a b:=by
 obtain ⟨h1,h2,h3,h4,h5⟩:=WI h
 have:=JR b.toNat
 rw [Zlr (by omega),Jj (by omega) (by omega),K9,if_pos h]
def ZmP (a b c d:Int):Bool:=Yl a b&&Yl c d&&decide (a < K9 c d)&&decide (c < K9 a b)
def inB (a b c d:Int):Bool:=Yl a b&&Yl c d&&decide (a≤c)&&decide (K9 c d≤K9 a b)
structure Cap where
 kind:Int
 base:Int
 bits:Int
 rights:Int
 width:Int
 level:Int
 device:Bool
theorem s38 (k b s r w l:Int) (d:Bool):g38 k b s r w l d=some (b,s):=Zmg ..
theorem s17 (k b s r w l:Int) (d:Bool):g17 k b s r w l d=some (b,s):=ZmT ..
def Kk (c:Cap):Bool:=Ki c.kind c.bits&&Yl c.base c.bits&&decide (0≤c.rights∧c.rights≤7)&&(if c.kind=3 then Wz c.width c.level else decide (c.width=0∧c.level=0))&&(!c.device||decide (c.kind=1)||decide (c.kind=2))
theorem s79 (k b s r w l:Int) (d:Bool):g79 k b s r w l d=some (Kk ⟨k,b,s,r,w,l,d⟩):=by
 rw [ZlD]
 simp only [s80,s38,s56,s81,Option.bind_some]
 repeat' split
 all_goals (refine congrArg some ?_;rw [ZV];simp only [Kk,CQ] at *; grind)
theorem s64 (k b s r w l:Int) (d:Bool):g64 k b s r w l d=some (Kk ⟨k,b,s,r,w,l,d⟩):=by
 rw [Zmq]
 simp only [s73,s17,s66,s74,Option.bind_some]
 repeat' split
 all_goals (refine congrArg some ?_;rw [ZV];simp only [Kk,CQ] at *; grind)
end Go.Proofs.Ytmjkdbpffdampaa
end

section
namespace Go.Proofs.Ytmjkdbpffdampaa
open Go Go.AM
set_option linter.unusedSimpArgs false
set_option linter.unusedVariables false
set_option maxRecDepth 100000
def Zid (obj a sz bits r w l:Int) (d:Bool) (j:Nat):List AV:=[I obj,I (a+j*sz),I bits,I r,I w,I l,B d]
def Jv (obj a sz bits r w l:Int) (d:Bool) (n:Nat):List (List AV):=(List.range n).map (Zid obj a sz bits r w l d)
theorem VV (obj a sz bits r w l:Int) (d:Bool) (n:Nat):Jv obj a sz bits r w l d (n+1)=Jv obj a sz bits r w l d n++[Zid obj a sz bits r w l d n]:=by
 simp [Jv,List.range_succ]
theorem Kq (obj a sz bits r w l:Int) (d:Bool) (n:Nat):(Jv obj a sz bits r w l d n).length=n:=by simp [Jv]
theorem ZaK {n:Nat} (h:n < 2^64):n < Z6:=by
 have:Z6=1208925819614629174706176:=rfl
 omega
theorem Ka {a b:List (List AV)} {k:Nat} (h:(a.length+b.length)*(k+1)≤1099511627776):Jr a b k:=h
theorem Zjk {k b:Int} (h:Ki k b=true):6≤b∧b≤40:=by
 simp only [Ki,decide_eq_true_eq] at h
 omega
theorem ZkS {c:Cap} (h:Kk c=true):Yl c.base c.bits=true:=by
 simp only [Kk,Bool.and_eq_true] at h
 exact h.1.1.1.2
def Yt (c:Cap) (obj bits level width off cnt:Int):Int:=
 if Kk c=false∨c.kind≠1 then 5
 else if iop .and .i64 c.rights 2=0 then 8
 else if Ki obj bits=false∨(obj=3∧Wz width level=false)∨cnt < 1∨8 < cnt∨off < 0 then 1
 else if c.device=true∧obj≠1∧obj≠2 then 5
 else if off % 2^bits.toNat≠0∨2^c.bits.toNat-cnt*2^bits.toNat < off∨(obj=1∧c.bits≤bits) then 6
 else 0
def YB (c:Cap) (obj bits level width off cnt:Int):List (List AV):=
 if Yt c obj bits level width off cnt=0 then Jv obj (c.base+off) (2^bits.toNat) bits c.rights (if obj=3 then width else 0) (if obj=3 then level else 0) c.device cnt.toNat else []
theorem V9 {c:Cap} {obj bits level width off cnt e:Int} (he:e≠0) (h:Yt c obj bits level width off cnt=e) :
  some (E0,e)=some (YB c obj bits level width off cnt,Yt c obj bits level width off cnt):=by
 simp only [YB,h,if_neg he]
theorem Zfa {c:Cap} {obj bits off cnt:Int} (hc:Kk c=true) (hs:Ki obj bits=true) (h1:1≤cnt) (h2:cnt≤8) (h3:0≤off) :
  iop .shl .i64 1 bits=2^bits.toNat∧iop .rem .i64 off (2^bits.toNat)=off % 2^bits.toNat∧iop .shl .i64 1 c.bits=2^c.bits.toNat∧iop .mul .i64 cnt (2^bits.toNat)=cnt*2^bits.toNat∧
   iop .sub .i64 (2^c.bits.toNat) (cnt*2^bits.toNat)=2^c.bits.toNat-cnt*2^bits.toNat∧(2:Int)^bits.toNat≠0∧0≤bits∧0≤c.bits∧0≤c.base∧c.base+2^c.bits.toNat≤1099511627776∧
   0 < (2:Int)^bits.toNat∧(2:Int)^bits.toNat≤1099511627776∧(2:Int)^bits.toNat≤cnt*2^bits.toNat∧0 < (2:Int)^c.bits.toNat∧bits≤40∧c.bits≤40:=by
 obtain ⟨b1,b2⟩:=Zjk hs
 obtain ⟨r1,r2,r3,r4,r5⟩:=WI (ZkS hc)
 have p1:=JR bits.toNat
 have p2:=JR c.bits.toNat
 have q1:=Zfy b2
 have q2:=Zfy r2
 have m1:cnt*2^bits.toNat≤8*2^bits.toNat:=Int.mul_le_mul_of_nonneg_right (by omega) (by omega)
 have m2:1*2^bits.toNat≤cnt*2^bits.toNat:=Int.mul_le_mul_of_nonneg_right (by omega) (by omega)
 refine ⟨Zlr (by omega),Zeb (by omega),Zlr (by omega),Zkp (by omega) (by omega),Zc6 (by omega) (by omega),by omega,by omega,by omega,r3,r5,p1,q1,by omega,p2,b2,r2⟩
theorem Wc {γ:Type} {p:Prop} {_:Decidable p} (h:p):(Zj p:Option γ→Option γ)=fun x=>x:=funext fun x=>ZO h x
end Go.Proofs.Ytmjkdbpffdampaa
end

section
namespace Go.Proofs.Ytmjkdbpffdampaa
open Go Go.AM
set_option linter.unusedSimpArgs false
set_option linter.unusedVariables false
set_option maxRecDepth 100000
abbrev ZoC:List Sh:=[.int .i64,.int .i64,.int .i64]
def Zc3 (i:Id):Bool:=decide (0≤i.core∧i.core < 32∧1≤i.op∧i.op≤1073741824∧0≤i.part∧i.part < 8)
def Znt (a b c d e f:Int):Bool:=decide (a < d∨(a=d∧(b < e∨(b=e∧c < f))))
theorem Jz (l:List Id):(Zf l).length=l.length:=by simp [Zf]
theorem Zjo (l:List Id) (n:Nat):(Zf l).take n=Zf (l.take n):=by simp [Zf,List.map_take]
theorem ZmD {l:List Id} {i:Nat} {x:Id} (h:l[i]? = some x):(Zf l)[i]? = some (idc x):=by simp [Zf,h]
theorem Zaa {γ:Type} {l:List Id} {i:Int} {x:Id} (k:(Int×Int×Int)→Option γ) (h0:0≤i) (h:l[i.toNat]? = some x):Zq (Zf l) i ZoC k=k (x.core,x.op,x.part):=
 ZeA (sh:=ZoC) (r:=(x.core,x.op,x.part)) k h0 (ZmD h) rfl
theorem K6 (a b c d e f:Int):((cop .eql a d&&(cop .eql b e&&(cop .eql c f&&true)))=true)↔((⟨a,b,c⟩:Id)=⟨d,e,f⟩):=by
 simp only [CQ,Id.mk.injEq,and_true]
structure KP where
 id:Id
 path:List Id
 cap:Cap
def VC (n:KP) (i:Nat):Bool:=match n.path[i]? with | none=>true | some x=>Zc3 x&&decide (x≠n.id)&&!(n.path.take i).contains x
def JO (n:KP):Bool:=Zc3 n.id&&Kk n.cap&&decide (n.path.length≤8)&&(List.range n.path.length).all (VC n)
end Go.Proofs.Ytmjkdbpffdampaa
end

section
namespace Go.Proofs.Ytmjkdbpffdampaa
open Go Go.AM
set_option linter.unusedSimpArgs false
set_option linter.unusedVariables false
set_option maxRecDepth 100000
theorem s63 (a b c:Int):g63 a b c=some (Zc3 ⟨a,b,c⟩):=by
 rw [Zmm]
 repeat' split
 all_goals (refine congrArg some ?_;rw [ZV];simp only [Zc3,CQ] at *; omega)
theorem l65 {l:List Id} (hl:l.length < 2^63) (a b c:Int):∀ (j i fuel:Nat),l.length=i+j→j < fuel→ZiF fuel (Zf l) a b c i=some ((l.drop i).contains ⟨a,b,c⟩):=by
 intro j
 induction j with
 | zero =>
  intro i fuel h hf
  obtain ⟨f,rfl⟩:∃ f,fuel=f+1:=⟨fuel-1,by omega⟩
  rw [Ze9,if_neg (by simp only [CQ,Jz];omega),List.drop_of_length_le (by omega)]
  rfl
 | succ j ih =>
  intro i fuel h hf
  obtain ⟨f,rfl⟩:∃ f,fuel=f+1:=⟨fuel-1,by omega⟩
  have hi:i < l.length:=by omega
  have hat:l[(i:Int).toNat]? = some l[i]:=by simp
  have a4:iop .add .i64 i 1=((i+1:Nat):Int):=by rw [Jj (by omega) (by omega)];omega
  rw [Ze9,if_pos (by simp only [CQ,Jz];omega),Zaa _ (by omega) hat,a4,List.drop_eq_getElem_cons hi,List.contains_cons]
  by_cases he:l[i]=(⟨a,b,c⟩:Id)
  ·rw [if_pos (by rw [K6];exact he)]
   simp [he]
  ·rw [if_neg (by rw [K6];exact he),ih (i+1) f (by omega) (by omega)]
   have:((⟨a,b,c⟩:Id) == l[i])=false:=by simp;exact fun h=>he h.symm
   rw [this,Bool.false_or]
theorem s65 (l:List Id) (hl:l.length < 2^63) (a b c:Int):g65 (Zf l) a b c=some (l.contains ⟨a,b,c⟩):=by
 have:=l65 hl a b c l.length 0 Z6 (by omega) (ZaK (by omega))
 rw [ZlC]
 exact this
def Wk (n:KP) (i:Nat):Bool:=match n.path[i]? with | none=>true | some x=>Zc3 x&&!(n.path.take i).contains x
theorem Zgt (n:KP):JO n=(Zc3 n.id&&Kk n.cap&&decide (n.path.length≤8)&&(!n.path.contains n.id&&(List.range n.path.length).all (Wk n))):=by
 unfold JO
 congr 1
 rw [ZV]
 simp only [Bool.and_eq_true,List.all_eq_true,List.mem_range,Bool.not_eq_true',← Bool.not_eq_true,List.contains_iff_mem]
 constructor
 ·intro h
  refine ⟨fun hc=>?_,fun i hi=>?_⟩
  ·obtain ⟨i,hi⟩:=List.mem_iff_getElem?.1 hc
   have:=h i (List.getElem?_eq_some_iff.1 hi).1
   unfold VC at this
   rw [hi] at this
   simp at this
  ·have:=h i hi
   unfold VC at this
   unfold Wk
   rw [List.getElem?_eq_getElem hi] at this ⊢
   simp only [Bool.and_eq_true] at this ⊢
   exact ⟨this.1.1,this.2⟩
 ·intro ⟨h1,h2⟩ i hi
  have:=h2 i hi
  unfold Wk at this
  unfold VC
  rw [List.getElem?_eq_getElem hi] at this ⊢
  simp only [Bool.and_eq_true,decide_eq_true_eq] at this ⊢
  exact ⟨⟨this.1,fun he=>h1 (he ▸ List.getElem_mem hi)⟩,this.2⟩
theorem l43 (n:KP) (hl:n.path.length < 2^63):∀ (j i fuel:Nat),n.path.length=i+j→j < fuel→
  Zjl fuel n.id.core n.id.op n.id.part (Zf n.path) n.cap.kind n.cap.base n.cap.bits n.cap.rights n.cap.width n.cap.level n.cap.device i=some ((List.range' i j).all (Wk n)):=by
 intro j
 induction j with
 | zero =>
  intro i fuel h hf
  obtain ⟨f,rfl⟩:∃ f,fuel=f+1:=⟨fuel-1,by omega⟩
  rw [ZeQ,if_neg (by simp only [CQ,Jz];omega)]
  rfl
 | succ j ih =>
  intro i fuel h hf
  obtain ⟨f,rfl⟩:∃ f,fuel=f+1:=⟨fuel-1,by omega⟩
  have hi:i < n.path.length:=by omega
  have hat:n.path[(i:Int).toNat]? = some n.path[i]:=by simp
  have a4:iop .add .i64 i 1=((i+1:Nat):Int):=by rw [Jj (by omega) (by omega)];omega
  have hp:Wk n i=(Zc3 n.path[i]&&!(n.path.take i).contains n.path[i]):=by
   unfold Wk
   rw [List.getElem?_eq_getElem hi]
  have hlt:(n.path.take i).length < 2^63:=by rw [List.length_take];omega
  rw [ZeQ,if_pos (by simp only [CQ,Jz];omega),Zaa _ (by omega) hat,a4,List.range'_succ,List.all_cons,hp]
  simp only [s63,Option.bind_some]
  cases h1:Zc3 n.path[i] with
  | false => simp
  | true =>
   rw [if_neg (by simp),ZO (by omega),ZO (by rw [Jz];omega),Zaa _ (by omega) hat,Int.toNat_natCast,Zjo,s65 _ hlt,Option.bind_some]
   cases h3:(n.path.take i).contains n.path[i] with
   | true => simp
   | false =>
    rw [if_neg (by simp)]
    have:=ih (i+1) f (by omega) (by omega)
    rw [this]
    simp
theorem s43 (n:KP) (hl:n.path.length < 2^63):g43 n.id.core n.id.op n.id.part (Zf n.path) n.cap.kind n.cap.base n.cap.bits n.cap.rights n.cap.width n.cap.level n.cap.device=some (JO n):=by
 rw [Zms,Zgt]
 simp only [s63,s64,Option.bind_some,Jz,s65 _ hl]
 cases h1:Zc3 n.id with
 | false => simp [show (⟨n.id.core, n.id.op, n.id.part⟩ : Id) = n.id from rfl, h1]
 | true =>
  cases h2:Kk n.cap with
  | false => simp [show (⟨n.id.core, n.id.op, n.id.part⟩ : Id) = n.id from rfl, h1, show (⟨n.cap.kind, n.cap.base, n.cap.bits, n.cap.rights, n.cap.width, n.cap.level, n.cap.device⟩ : Cap) = n.cap from rfl, h2]
  | true =>
   rw [if_neg (by simp),if_neg (by simp)]
   by_cases h3:n.path.length≤8
   ·rw [if_neg (by simp only [CQ];omega)]
    cases h4:n.path.contains n.id with
    | true => simp
    | false =>
     rw [if_neg (by simp)]
     have:=l43 n hl n.path.length 0 Z6 (by omega) (ZaK (by omega))
     have e:(List.range' 0 n.path.length)=List.range n.path.length:=(List.range_eq_range' ..).symm
     rw [e] at this
     refine this.trans ?_
     simp [h3]
   ·rw [if_pos (by simp only [CQ];omega)]
    simp [h3]
theorem l40 {l m:List Id} (hl:l.length < 2^63) (hm:l.length=m.length):∀ (j i fuel:Nat),l.length=i+j→j < fuel→Zit fuel (Zf l) (Zf m) i=some (decide (l.drop i=m.drop i)):=by
 intro j
 induction j with
 | zero =>
  intro i fuel h hf
  obtain ⟨f,rfl⟩:∃ f,fuel=f+1:=⟨fuel-1,by omega⟩
  rw [Zfw,if_neg (by simp only [CQ,Jz];omega),List.drop_of_length_le (by omega),List.drop_of_length_le (by omega)]
  rfl
 | succ j ih =>
  intro i fuel h hf
  obtain ⟨f,rfl⟩:∃ f,fuel=f+1:=⟨fuel-1,by omega⟩
  have hi:i < l.length:=by omega
  have hi':i < m.length:=by omega
  have hat:l[(i:Int).toNat]? = some l[i]:=by simp
  have hat':m[(i:Int).toNat]? = some m[i]:=by simp
  have a4:iop .add .i64 i 1=((i+1:Nat):Int):=by rw [Jj (by omega) (by omega)];omega
  rw [Zfw,if_pos (by simp only [CQ,Jz];omega),Zaa _ (by omega) hat,Zaa _ (by omega) hat',a4,List.drop_eq_getElem_cons hi,List.drop_eq_getElem_cons hi']
  by_cases he:l[i]=m[i]
  ·rw [if_neg (by rw [Bool.not_eq_true',← Bool.not_eq_true,K6];exact fun h=>h he),ih (i+1) f (by omega) (by omega)]
   simp only [he,List.cons.injEq,true_and]
  ·rw [if_pos (by rw [Bool.not_eq_true',← Bool.not_eq_true,K6];exact he)]
   simp only [List.cons.injEq,he,false_and,decide_false]
theorem s40 (l m:List Id) (hl:l.length < 2^63) (hm:m.length < 2^63):g40 (Zf l) (Zf m)=some (decide (l=m)):=by
 rw [Zmk,Jz,Jz]
 by_cases h:l.length=m.length
 ·rw [if_neg (by simp only [CQ];omega)]
  have:=l40 hl h l.length 0 Z6 (by omega) (ZaK (by omega))
  rw [List.drop_zero,List.drop_zero] at this
  exact this
 ·rw [if_pos (by simp only [CQ];omega)]
  have:¬ l=m:=fun he=>h (by rw [he])
  simp [this]
theorem s15 (a b c:Int) (l:List Id) (hl:l.length < 2^63) (k bs s r w lv:Int) (d:Bool):g15 a b c (Zf l) k bs s r w lv d a b c (Zf l) k bs s r w lv d=some true:=by
 rw [ZjM,s40 l l hl hl,if_pos (by simp [cop]),if_pos (by simp [cop]),Option.bind_some]
 simp
end Go.Proofs.Ytmjkdbpffdampaa
end

section
namespace Go.Proofs.Ytmjkdbpffdampaa
open Go Go.AM
set_option linter.unusedSimpArgs false
set_option linter.unusedVariables false
set_option maxRecDepth 100000
theorem Zbk {n:Nat} (h:n < 2^63):n+1 < Z6:=by
 have:(2:Nat)^64≤Z6:=by decide
 omega
theorem Kw {i n:Nat} (h:i < n) (hn:n < 2^63):iop .add .i64 (i:Int) 1=((i+1:Nat):Int):=by
 rw [Jj (by omega) (by omega)];omega
theorem K1 {i n:Nat} (h:i < n):(cop .lss (i:Int) (n:Int))=true:=by
 simp only [CQ];omega
theorem KZ {i n:Nat} (h:n≤i):¬ (cop .lss (i:Int) (n:Int))=true:=by
 simp only [CQ];omega
theorem ZeT {γ:Type} {F:Nat→Int→Option γ} {n:Nat} {fin bad:Option γ} (p:Nat→Bool) (hn:n < 2^63) (i0:Nat) (hi0:i0≤1)
  (step:∀ k i:Nat,i0≤i→i < n→F (k+1) (i:Int)=if p i=true then F k ((i+1:Nat):Int) else bad)
  (last:∀ k i:Nat,n≤i→F (k+1) (i:Int)=fin):F Z6 (i0:Int)=if (List.range' i0 (n-i0)).all p=true then fin else bad:=by
 have key:∀ (j i fuel:Nat),i0≤i→n≤i+j→j < fuel→F fuel (i:Int)=if (List.range' i (n-i)).all p=true then fin else bad:=by
  intro j
  induction j with
  | zero =>
   intro i fuel h0 h hf
   obtain ⟨f,rfl⟩:∃ f,fuel=f+1:=⟨fuel-1,by omega⟩
   rw [last f i (by omega),show n-i=0 by omega]
   rfl
  | succ j ih =>
   intro i fuel h0 h hf
   obtain ⟨f,rfl⟩:∃ f,fuel=f+1:=⟨fuel-1,by omega⟩
   by_cases hi:i < n
   ·rw [step f i h0 hi,show n-i=(n-(i+1))+1 by omega,List.range'_succ,List.all_cons]
    cases hp:p i with
    | true => rw [if_pos rfl, ih (i + 1) f (by omega) (by omega) (by omega), Bool.true_and]
    | false => rw [if_neg Bool.false_ne_true, Bool.false_and, if_neg Bool.false_ne_true]
   ·rw [last f i (by omega),show n-i=0 by omega]
    rfl
 exact key n i0 Z6 (Nat.le_refl _) (by omega) (by have:=Zbk hn;omega)
theorem ZeJ {F:Nat→Int→Option Int} {n:Nat} (p:Nat→Bool) (hn:n < 2^63)
  (step:∀ k i:Nat,i < n→F (k+1) (i:Int)=if p i=true then some (i:Int) else F k ((i+1:Nat):Int))
  (last:∀ k i:Nat,n≤i→F (k+1) (i:Int)=some (-1)):∃ r,F Z6 0=some r∧cop .geq r 0=(List.range' 0 n).any p:=by
 have key:∀ (j i fuel:Nat),n≤i+j→j < fuel→∃ r,F fuel (i:Int)=some r∧cop .geq r 0=(List.range' i (n-i)).any p:=by
  intro j
  induction j with
  | zero =>
   intro i fuel h hf
   obtain ⟨f,rfl⟩:∃ f,fuel=f+1:=⟨fuel-1,by omega⟩
   rw [last f i (by omega),show n-i=0 by omega]
   exact ⟨_,rfl,rfl⟩
  | succ j ih =>
   intro i fuel h hf
   obtain ⟨f,rfl⟩:∃ f,fuel=f+1:=⟨fuel-1,by omega⟩
   by_cases hi:i < n
   ·rw [step f i hi,show n-i=(n-(i+1))+1 by omega,List.range'_succ,List.any_cons]
    cases hp:p i with
    | true =>
     rw [if_pos rfl,Bool.true_or]
     refine ⟨_,rfl,?_⟩
     simp only [CQ]
     omega
    | false => rw [if_neg Bool.false_ne_true, Bool.false_or]; exact ih (i + 1) f (by omega) (by omega)
   ·rw [last f i (by omega),show n-i=0 by omega]
    exact ⟨_,rfl,rfl⟩
 have:=key n 0 Z6 (by omega) (by have:=Zbk hn;omega)
 simpa using this
def atB {α:Type} (q:α→Bool) (l:List α) (i:Nat):Bool:=match l[i]? with | some x=>q x | none=>true
theorem ZaD {α:Type} (q:α→Bool) {l:List α} {i:Nat} (h:i < l.length):atB q l i=q l[i]:=by
 unfold atB
 rw [List.getElem?_eq_getElem h]
theorem ZhP {α:Type} (q:α→Bool) (l:List α):(List.range' 0 l.length).all (atB q l)=l.all q:=by
 rw [ZV,List.all_eq_true,List.all_eq_true]
 constructor
 ·intro h x hx
  obtain ⟨i,hi,rfl⟩:=List.getElem_of_mem hx
  have:=h i (by simp [List.mem_range',hi])
  rwa [ZaD q hi] at this
 ·intro h i hi
  have hi':i < l.length:=by simpa [List.mem_range'] using hi
  rw [ZaD q hi']
  exact h _ (List.getElem_mem hi')
theorem ZjO {α:Type} (q:α→Bool) (l:List α):(List.range' 0 l.length).any (fun i=>!atB q l i) = !(l.all q):=by
 rw [← ZhP q l,List.any_eq_not_all_not]
 simp
def ZmY {α:Type} (lt:α→α→Bool) (l:List α):Nat→Bool
 | 0 => true
 | j + 1 => match l[j]?, l[j + 1]? with | some a, some b => lt a b | _, _ => true
def Zfr {α:Type} (lt:α→α→Bool) (l:List α):Bool:=(List.range' 0 l.length).all (ZmY lt l)
theorem ZgS {α:Type} (lt:α→α→Bool) {l:List α} {j:Nat} (h:j+1 < l.length):ZmY lt l (j+1)=lt l[j] l[j+1]:=by
 show (match l[j]?,l[j+1]? with | some a,some b=>lt a b | _,_=>true)=_
 rw [List.getElem?_eq_getElem h,List.getElem?_eq_getElem (show j < l.length by omega)]
structure Call where
 kind:Int
 slot:Int
 dest:Int
 core:Int
 mask:Int
 object:Int
 bits:Int
 level:Int
 offset:Int
 count:Int
 index:Int
 addr:Int
structure Req where
 id:Id
 call:Call
 region:Int
 width:Int
 src:KP
structure Z5 where
 node:KP
 op:Int
 lock:Id
structure ZjX where
 region:Int
 op:Id
structure Ans where
 op:Int
 err:Int
structure ZL where
 core:Int
 slot:Int
 node:KP
structure Zpq where
 region:Int
 to:Int
structure Zk8 where
 number:Int
 members:List Int
 owners:List Int
structure WH where
 slots:List Z5
 pending:List Req
 marks:List ZjX
 answers:List Ans
 entries:List ZL
 commits:List Id
structure ZbG where
 core:Int
 view:Zk8
 state:WH
 ready:Bool
 next:Zk8
 proposal:WH
def ZnQ (n:KP):List AV:=[I n.id.core,I n.id.op,I n.id.part,.slice false 3 (Zf n.path),I n.cap.kind,I n.cap.base,I n.cap.bits,I n.cap.rights,I n.cap.width,I n.cap.level,B n.cap.device]
def ZgB (r:Req):List AV:=[I r.id.core,I r.id.op,I r.id.part,I r.call.kind,I r.call.slot,I r.call.dest,I r.call.core,I r.call.mask,I r.call.object,I r.call.bits,I r.call.level,I r.call.offset,I r.call.count,I r.call.index,I r.call.addr,I r.region,I r.width,I r.src.id.core,I r.src.id.op,I r.src.id.part,.slice false 3 (Zf r.src.path),I r.src.cap.kind,I r.src.cap.base,I r.src.cap.bits,I r.src.cap.rights,I r.src.cap.width,I r.src.cap.level,B r.src.cap.device]
def Jb (s:Z5):List AV:=[I s.node.id.core,I s.node.id.op,I s.node.id.part,.slice false 3 (Zf s.node.path),I s.node.cap.kind,I s.node.cap.base,I s.node.cap.bits,I s.node.cap.rights,I s.node.cap.width,I s.node.cap.level,B s.node.cap.device,I s.op,I s.lock.core,I s.lock.op,I s.lock.part]
def Zij (m:ZjX):List AV:=[I m.region,I m.op.core,I m.op.op,I m.op.part]
def Zlk (a:Ans):List AV:=[I a.op,I a.err]
def Zk (e:ZL):List AV:=[I e.core,I e.slot,I e.node.id.core,I e.node.id.op,I e.node.id.part,.slice false 3 (Zf e.node.path),I e.node.cap.kind,I e.node.cap.base,I e.node.cap.bits,I e.node.cap.rights,I e.node.cap.width,I e.node.cap.level,B e.node.cap.device]
abbrev ZlQ:List Sh:=[.int .i64,.int .i64,.int .i64,.slice 3,.int .i64,.int .i64,.int .i64,.int .i64,.int .i64,.int .i64,.bool]
abbrev Zkg:List Sh:=[.int .i64,.int .i64,.int .i64,.int .i64,.int .i64,.int .i64,.int .i64,.int .i64,.int .i64,.int .i64,.int .i64,.int .i64,.int .i64,.int .i64,.int .i64,.int .i64,.int .i64,.int .i64,.int .i64,.int .i64,.slice 3,.int .i64,.int .i64,.int .i64,.int .i64,.int .i64,.int .i64,.bool]
abbrev ZdC:List Sh:=[.int .i64,.int .i64,.int .i64,.slice 3,.int .i64,.int .i64,.int .i64,.int .i64,.int .i64,.int .i64,.bool,.int .i64,.int .i64,.int .i64,.int .i64]
abbrev ZaI:List Sh:=[.int .i64,.int .i64,.int .i64,.int .i64,.int .i64,.slice 3,.int .i64,.int .i64,.int .i64,.int .i64,.int .i64,.int .i64,.bool]
def ZkV (n:KP):ShsT ZlQ:=(n.id.core,n.id.op,n.id.part,Zf n.path,n.cap.kind,n.cap.base,n.cap.bits,n.cap.rights,n.cap.width,n.cap.level,n.cap.device)
def ZoL (r:Req):ShsT Zkg:=(r.id.core,r.id.op,r.id.part,r.call.kind,r.call.slot,r.call.dest,r.call.core,r.call.mask,r.call.object,r.call.bits,r.call.level,r.call.offset,r.call.count,r.call.index,r.call.addr,r.region,r.width,r.src.id.core,r.src.id.op,r.src.id.part,Zf r.src.path,r.src.cap.kind,r.src.cap.base,r.src.cap.bits,r.src.cap.rights,r.src.cap.width,r.src.cap.level,r.src.cap.device)
def ZhG (s:Z5):ShsT ZdC:=(s.node.id.core,s.node.id.op,s.node.id.part,Zf s.node.path,s.node.cap.kind,s.node.cap.base,s.node.cap.bits,s.node.cap.rights,s.node.cap.width,s.node.cap.level,s.node.cap.device,s.op,s.lock.core,s.lock.op,s.lock.part)
def Ya (e:ZL):ShsT ZaI:=(e.core,e.slot,e.node.id.core,e.node.id.op,e.node.id.part,Zf e.node.path,e.node.cap.kind,e.node.cap.base,e.node.cap.bits,e.node.cap.rights,e.node.cap.width,e.node.cap.level,e.node.cap.device)
theorem Kb {α γ:Type} {f:α→List AV} {sh:List Sh} {v:α→ShsT sh} (hf:∀ x,Zg0 sh (f x)=some (v x)) {l:List α} {i:Nat} (h:i < l.length) (k:ShsT sh→Option γ):Zq (l.map f) (i:Int) sh k=k (v l[i]):=by
 refine ZeA k (by omega) (cs:=f l[i]) ?_ (hf _)
 rw [Int.toNat_natCast,List.getElem?_map,List.getElem?_eq_getElem h]
 rfl
theorem ZgW {γ:Type} {l:List Req} {i:Nat} (h:i < l.length) (k:ShsT Zkg→Option γ):Zq (l.map ZgB) (i:Int) Zkg k=k (ZoL l[i]):=Kb (fun _=>rfl) h k
theorem Ym {γ:Type} {l:List Z5} {i:Nat} (h:i < l.length) (k:ShsT ZdC→Option γ):Zq (l.map Jb) (i:Int) ZdC k=k (ZhG l[i]):=Kb (fun _=>rfl) h k
theorem Zt {γ:Type} {l:List ZL} {i:Nat} (h:i < l.length) (k:ShsT ZaI→Option γ):Zq (l.map Zk) (i:Int) ZaI k=k (Ya l[i]):=Kb (fun _=>rfl) h k
theorem Jp {γ:Type} {l:List Int} {i:Nat} (h:i < l.length) (k:Int→Option γ):Zq (Zb l) (i:Int) [.int .i64] k=k l[i]:=Kb (f:=Zl4) (sh:=[.int .i64]) (v:=fun x=>x) (fun _=>rfl) h k
theorem Zmb (i:Id):(⟨i.core,i.op,i.part⟩:Id)=i:=rfl
end Go.Proofs.Ytmjkdbpffdampaa
end

section
namespace Go.Proofs.Ytmjkdbpffdampaa
open Go Go.AM
set_option linter.unusedSimpArgs false
set_option linter.unusedVariables false
set_option maxRecDepth 100000
def Wr (z:Int):Bool:=decide (0≤z∧z < 32)
def ZcS (z:Int):Bool:=decide (0≤z∧z < 16)
def Zj1 (z:Int):Bool:=decide (0≤z∧z < 64)
def Zmy (z:Int):Bool:=decide (0≤z∧z≤99)
def ZfS (i:Id):Bool:=Zc3 i&&decide (i.part=0)
theorem s42 (z:Int):g42 z=some (ZcS z):=by
 rw [Zmh]
 repeat' split
 all_goals (refine congrArg some ?_;rw [ZV];simp only [ZcS,CQ] at *; omega)
theorem s41 (i:Id):g41 i.core i.op i.part=some (ZfS i):=by
 rw [Znp,s63,Option.bind_some,Zmb]
 repeat' split
 all_goals (refine congrArg some ?_;rw [ZV];simp only [ZfS,CQ] at *; grind)
def W8 (a b:KP):Bool:=decide (a.id=b.id)&&decide (a.cap.kind=b.cap.kind∧a.cap.base=b.cap.base∧a.cap.bits=b.cap.bits∧a.cap.rights=b.cap.rights∧a.cap.width=b.cap.width∧a.cap.level=b.cap.level∧a.cap.device=b.cap.device)&&decide (a.path=b.path)
theorem ZhE (a b:Cap):(((cop .eql a.kind b.kind)&&((cop .eql a.base b.base)&&((cop .eql a.bits b.bits)&&((cop .eql a.rights b.rights)&&((cop .eql a.width b.width)&&((cop .eql a.level b.level)&&((a.device == b.device)&&true)))))))=true)↔(a.kind=b.kind∧a.base=b.base∧a.bits=b.bits∧a.rights=b.rights∧a.width=b.width∧a.level=b.level∧a.device=b.device):=by
 simp only [CQ,beq_iff_eq,and_true]
theorem Zoy (a b:KP) (ha:a.path.length < 2^63) (hb:b.path.length < 2^63):g15 a.id.core a.id.op a.id.part (Zf a.path) a.cap.kind a.cap.base a.cap.bits a.cap.rights a.cap.width a.cap.level a.cap.device b.id.core b.id.op b.id.part (Zf b.path) b.cap.kind b.cap.base b.cap.bits b.cap.rights b.cap.width b.cap.level b.cap.device=some (W8 a b):=by
 rw [ZjM,s40 _ _ ha hb,Option.bind_some]
 unfold W8
 refine Zz (fun h=>?_) fun h=>?_
 ·rw [K6] at h
  refine Zz (fun h2=>?_) fun h2=>?_
  ·rw [ZhE] at h2
   rw [decide_eq_true (show a.id=b.id from h),decide_eq_true h2];rfl
  ·rw [ZhE] at h2
   rw [decide_eq_true (show a.id=b.id from h),decide_eq_false h2];rfl
 ·rw [K6] at h
  rw [decide_eq_false (show ¬ a.id=b.id from h)];rfl
def Jo:KP:=⟨⟨0,0,0⟩,[],⟨0,0,0,0,0,0,false⟩⟩
theorem ZoX (a:KP) (ha:a.path.length < 2^63):g15 a.id.core a.id.op a.id.part (Zf a.path) a.cap.kind a.cap.base a.cap.bits a.cap.rights a.cap.width a.cap.level a.cap.device 0 0 0 E0 0 0 0 0 0 0 false=some (W8 a Jo):=Zoy a Jo ha (by simp [Jo])
def WG (r:Req):Bool:=ZfS r.id&&decide (1≤r.call.kind∧r.call.kind≤6)&&ZcS r.region&&decide (r.width=32∨r.width=39)&&(if r.call.kind=1 then W8 r.src Jo else JO r.src)
theorem s18 (r:Req) (hr:r.src.path.length < 2^63):g18 r.id.core r.id.op r.id.part r.call.kind r.call.slot r.call.dest r.call.core r.call.mask r.call.object r.call.bits r.call.level r.call.offset r.call.count r.call.index r.call.addr r.region r.width r.src.id.core r.src.id.op r.src.id.part (Zf r.src.path) r.src.cap.kind r.src.cap.base r.src.cap.bits r.src.cap.rights r.src.cap.width r.src.cap.level r.src.cap.device=some (WG r):=by
 rw [ZmW]
 simp only [s41,s42,ZoX _ hr,s43 _ hr,Option.bind_some]
 repeat' split
 all_goals (refine congrArg some ?_;rw [ZV];simp only [WG,CQ] at *; grind)
end Go.Proofs.Ytmjkdbpffdampaa
end

section
namespace Go.Proofs.Ytmjkdbpffdampaa
open Go Go.AM
set_option linter.unusedSimpArgs false
set_option linter.unusedVariables false
set_option maxRecDepth 100000
def zid:Id:=⟨0,0,0⟩
def ZnI (i:Id) (t:Z5):Bool:=!decide (t.node.id=zid)&&decide (t.node.id=i)
def ZmA (s:Z5):Bool:=decide (0≤s.op∧s.op≤1073741824)&&(if s.node.id=zid then W8 s.node Jo&&decide (s.lock=zid) else JO s.node&&(decide (s.lock=zid)||ZfS s.lock))
def ZjL (l:List Z5) (i:Nat):Bool:=match l[i]? with | some s=>!((l.take i).any (ZnI s.node.id)) | none=>true
def Zd3 (l:List Z5):Bool:=decide (l.length≤64)&&(List.range' 0 l.length).all (fun i=>atB ZmA l i&&ZjL l i)
theorem ZkH (a b c:Int):((cop .eql a 0&&(cop .eql b 0&&(cop .eql c 0&&true)))=true)↔((⟨a,b,c⟩:Id)=zid):=K6 a b c 0 0 0
end Go.Proofs.Ytmjkdbpffdampaa
end

section
namespace Go.Proofs.Ytmjkdbpffdampaa
open Go Go.AM
set_option linter.unusedSimpArgs false
set_option linter.unusedVariables false
set_option maxRecDepth 100000
def ZnE (a b:Id):Bool:=Znt a.core a.op a.part b.core b.op b.part
theorem s28 (a b c d e f:Int):g28 a b c d e f=some (Znt a b c d e f):=by
 rw [ZmC]
 repeat' split
 all_goals (refine congrArg some ?_;rw [ZV];simp only [Znt,CQ] at *; omega)
def ZfH (m:ZjX):Bool:=ZcS m.region&&ZfS m.op
def Zi6 (a:Ans):Bool:=decide (1≤a.op∧a.op≤1073741824)&&Zmy a.err
def ZjC (e:ZL):Bool:=Wr e.core&&Zj1 e.slot&&JO e.node
def ltp:Req→Req→Bool:=fun a b=>ZnE a.id b.id
def ltm:ZjX→ZjX→Bool:=fun a b=>decide (a.region < b.region)
def lta:Ans→Ans→Bool:=fun a b=>decide (a.op < b.op)
def lte:ZL→ZL→Bool:=fun a b=>ZnE a.node.id b.node.id
def W5 (s:WH):Bool:=Zd3 s.slots&&(s.pending.all WG&&Zfr ltp s.pending)&&(s.marks.all ZfH&&Zfr ltm s.marks)&&(s.answers.all Zi6&&Zfr lta s.answers)&&(s.entries.all ZjC&&Zfr lte s.entries)&&s.commits.all ZfS
end Go.Proofs.Ytmjkdbpffdampaa
end

section
namespace Go.Proofs.Ytmjkdbpffdampaa
open Go Go.AM
set_option linter.unusedSimpArgs false
set_option linter.unusedVariables false
set_option maxRecDepth 100000
theorem Zpe {n:Nat} (h:n≤maxLen):n < 2^63:=by
 have:maxLen+1=2^63:=by decide
 omega
end Go.Proofs.Ytmjkdbpffdampaa
end

section
namespace Go.Proofs.Ytmjkdbpffdampaa
open Go Go.AM
set_option linter.unusedSimpArgs false
set_option linter.unusedVariables false
set_option maxRecDepth 100000
theorem Jm (l:List Int):(Zb l).length=l.length:=by simp [Zb]
def Znj (z:Int):Bool:=decide (0≤z∧z≤1073741824)
theorem s82 (l:List Int) (hl:l.length < 2^63) (a:Int):∃ r,g82 (Zb l) a=some r∧cop .geq r 0=l.any (fun x=>decide (a=x)):=by
 rw [Zmi,Jm]
 have:=ZeJ (F:=fun k i=>ZfT k (Zb l) a (l.length:Int) i) (n:=l.length) (fun i=>!atB (fun x=>!decide (a=x)) l i) hl
  (fun k i hi=>by
   show ZfT (k+1) _ _ _ _=_
   rw [Zfo,if_pos (K1 hi)]
   refine (Jp hi _).trans ?_
   rw [Kw hi hl,ZaD _ hi,Bool.not_not]
   rfl)
  (fun k i hi=>by show ZfT (k+1) _ _ _ _=_;rw [Zfo,if_neg (KZ hi)])
 rw [ZjO] at this
 have e:(!(l.all fun x=>!decide (a=x)))=l.any (fun x=>decide (a=x)):=by
  rw [List.any_eq_not_all_not]
 rw [e] at this
 exact this
theorem s60 (l:List Int) (hl:l.length < 2^63) (a:Int):g60 (Zb l) a=some (l.any (fun x=>decide (a=x))):=by
 obtain ⟨r,h1,h2⟩:=s82 l hl a
 rw [Zlt,h1,Option.bind_some,h2]
theorem s16 (l:List Int) (hl:l.length < 2^63) (a:Int):g16 (Zb l) a=some (l.any (fun x=>decide (a=x))):=by
 rw [ZlA]
 have:=ZeT (F:=fun k i=>ZdX k (Zb l) a i) (n:=l.length) (fin:=some false) (bad:=some true) (atB (fun x=>!decide (a=x)) l) hl 0 (by omega)
  (fun k i _ hi=>by
   show ZdX (k+1) (Zb l) _ _=_
   rw [ZeY,Jm,if_pos (K1 hi)]
   refine (Jp hi _).trans ?_
   rw [Kw hi hl,ZaD _ hi]
   generalize ZdX k (Zb l) a ((i+1:Nat):Int)=X
   generalize l[i]=t
   by_cases h:a=t
   ·rw [if_pos (by simp only [CQ];exact h.symm),if_neg (by simp [h])]
   ·rw [if_neg (by simp only [CQ];exact fun he=>h he.symm),if_pos (by simp [h])])
  (fun k i hi=>by show ZdX (k+1) (Zb l) _ _=_;rw [ZeY,Jm,if_neg (KZ hi)])
 rw [Nat.sub_zero,ZhP] at this
 refine Eq.trans this ?_
 rw [List.any_eq_not_all_not]
 cases l.all (fun x=>!decide (a=x))<;>rfl
def ZnM (l:List Int) (i:Nat):Bool:=match l[i]? with | some x=>!((l.take i).any (fun y=>decide (x=y))) | none=>true
def ZgJ (v:Zk8):Bool:=Znj v.number&&decide (v.members.length≤32)&&decide (v.owners.length≤16)&&(List.range' 0 v.members.length).all (fun i=>atB Wr v.members i&&ZnM v.members i)&&v.owners.all Wr
def Zmc (r:ZbG):Bool:=Wr r.core&&ZgJ r.view&&W5 r.state&&ZgJ r.next&&W5 r.proposal
end Go.Proofs.Ytmjkdbpffdampaa
end

section
namespace Go.Proofs.Ytmjkdbpffdampaa
open Go Go.AM
set_option linter.unusedSimpArgs false
set_option linter.unusedVariables false
set_option maxRecDepth 100000
structure Msg where
 kind:Int
 view:Int
 frm:Int
 to:Int
 round:Int
 region:Int
 slot:Int
 op:Id
 err:Int
 settled:Bool
 req:Req
 ids:List Id
 nodes:List KP
 cores:List Int
 moves:List Zpq
 base:Int
 next:Zk8
 state:WH
 report:ZbG
def Zm6:Call:=⟨0,0,0,0,0,0,0,0,0,0,0,0⟩
def WB:Req:=⟨zid,Zm6,0,0,Jo⟩
def Zii:Zk8:=⟨0,[],[]⟩
def Zed:WH:=⟨[],[],[],[],[],[]⟩
def Zir:ZbG:=⟨0,Zii,Zed,false,Zii,Zed⟩
def Zpb (r:Req):Bool:=decide (r.id=zid)&&decide (r.call.kind=0∧r.call.slot=0∧r.call.dest=0∧r.call.core=0∧r.call.mask=0∧r.call.object=0∧r.call.bits=0∧r.call.level=0∧r.call.offset=0∧r.call.count=0∧r.call.index=0∧r.call.addr=0)&&decide (r.region=0)&&decide (r.width=0)&&W8 r.src Jo
def Zkt (v:Zk8):Bool:=decide (v.number=0)&&decide (v.members.length=0)&&decide (v.owners.length=0)
def ZgM (s:WH):Bool:=decide (s.slots.length=0)&&decide (s.pending.length=0)&&decide (s.marks.length=0)&&decide (s.answers.length=0)&&decide (s.entries.length=0)&&decide (s.commits.length=0)
def ZkQ (r:ZbG):Bool:=decide (r.core=0)&&Zkt r.view&&ZgM r.state&&!r.ready&&Zkt r.next&&ZgM r.proposal
def zf (m:Msg):Nat→Bool
 | 0 => decide (m.region = 0)
 | 1 => Zpb m.req
 | 2 => decide (m.op = zid)
 | 3 => decide (m.err = 0)
 | 4 => !m.settled
 | 5 => decide (m.nodes.length = 0)
 | 6 => decide (m.slot = 0)
 | 7 => decide (m.ids.length = 0)
 | 8 => decide (m.round = 0)
 | 9 => decide (m.cores.length = 0)
 | 10 => ZkQ m.report
 | 11 => decide (m.base = 0)
 | 12 => Zkt m.next
 | 13 => ZgM m.state
 | 14 => decide (m.moves.length = 0)
 | _ => true
end Go.Proofs.Ytmjkdbpffdampaa
end

section
namespace Go.Proofs.Ytmjkdbpffdampaa
open Go Go.AM
set_option linter.unusedSimpArgs false
set_option linter.unusedVariables false
set_option maxRecDepth 100000
def kf:Nat→List Nat
 | 1 => [0, 1]
 | 2 => [0, 2, 3, 4, 5]
 | 3 => [0, 2]
 | 4 => [0, 2, 6, 5]
 | 5 => [0, 2, 3]
 | 6 => [0, 2, 7]
 | 7 => [0, 2]
 | 8 => [0, 2]
 | 9 => [0, 2]
 | 10 => [0, 2]
 | 11 => [0, 2]
 | 12 => [8, 9]
 | 13 => [8, 10]
 | 14 => [8, 11, 9, 12, 13]
 | 15 => [8]
 | 16 => [8]
 | 17 => [9, 14]
 | _ => []
def kindOk (k:Int):Bool:=decide (1≤k∧k≤17)
def headOk (m:Msg):Bool:=kindOk m.kind&&Znj m.view&&Wr m.frm&&Wr m.to
def rest (n:Nat) (m:Msg):Bool:=(List.range 15).all (fun g=>(kf n).contains g||zf m g)
end Go.Proofs.Ytmjkdbpffdampaa
end

section
namespace Go.Proofs.Ytmjkdbpffdampaa
open Go Go.AM
set_option linter.unusedSimpArgs false
set_option linter.unusedVariables false
set_option maxRecDepth 100000
def Zjm (a b:Req):Bool:=decide (a.id.core=b.id.core∧a.id.op=b.id.op∧a.id.part=b.id.part)&&decide (a.call.kind=b.call.kind∧a.call.slot=b.call.slot∧a.call.dest=b.call.dest∧a.call.core=b.call.core∧a.call.mask=b.call.mask∧a.call.object=b.call.object∧a.call.bits=b.call.bits∧a.call.level=b.call.level∧a.call.offset=b.call.offset∧a.call.count=b.call.count∧a.call.index=b.call.index∧a.call.addr=b.call.addr)&&decide (a.region=b.region)&&decide (a.width=b.width)&&W8 a.src b.src
theorem s13 (a b:Req) (ha:a.src.path.length < 2^63) (hb:b.src.path.length < 2^63):g13 a.id.core a.id.op a.id.part a.call.kind a.call.slot a.call.dest a.call.core a.call.mask a.call.object a.call.bits a.call.level a.call.offset a.call.count a.call.index a.call.addr a.region a.width a.src.id.core a.src.id.op a.src.id.part (Zf a.src.path) a.src.cap.kind a.src.cap.base a.src.cap.bits a.src.cap.rights a.src.cap.width a.src.cap.level a.src.cap.device b.id.core b.id.op b.id.part b.call.kind b.call.slot b.call.dest b.call.core b.call.mask b.call.object b.call.bits b.call.level b.call.offset b.call.count b.call.index b.call.addr b.region b.width b.src.id.core b.src.id.op b.src.id.part (Zf b.src.path) b.src.cap.kind b.src.cap.base b.src.cap.bits b.src.cap.rights b.src.cap.width b.src.cap.level b.src.cap.device=some (Zjm a b):=by
 rw [Zmd,Zoy _ _ ha hb,Option.bind_some]
 unfold Zjm
 repeat' split
 all_goals (refine congrArg some ?_;rw [ZV];simp only [CQ] at * <;> grind)
theorem Zgn (a:KP):W8 a a=true:=by simp [W8]
theorem Zga (a:Req):Zjm a a=true:=by simp [Zjm,Zgn]
end Go.Proofs.Ytmjkdbpffdampaa
end

section
namespace Go.Proofs.Ytmjkdbpffdampaa
open Go Go.AM
set_option linter.unusedSimpArgs false
set_option linter.unusedVariables false
set_option maxRecDepth 100000
end Go.Proofs.Ytmjkdbpffdampaa
end

section
namespace Go.Proofs.Ytmjkdbpffdampaa
open Go Go.AM
set_option linter.unusedSimpArgs false
set_option linter.unusedVariables false
set_option maxRecDepth 100000
theorem Zhe {α:Type} {F:Nat→LL→Int→Option LL} (l:List α) (f:α→LL) (hn:l.length < 2^63)
  (step:∀ (k i:Nat) (hi:i < l.length),F (k+1) ((l.take i).flatMap f) (i:Int)=F k ((l.take i).flatMap f++f l[i]) ((i+1:Nat):Int))
  (last:∀ (k:Nat) (acc:LL) (i:Nat),l.length≤i→F (k+1) acc (i:Int)=some acc):F Z6 [] 0=some (l.flatMap f):=by
 have key:∀ (j i fuel:Nat),l.length≤i+j→j < fuel→F fuel ((l.take i).flatMap f) (i:Int)=some (l.flatMap f):=by
  intro j
  induction j with
  | zero =>
   intro i fuel h hf
   obtain ⟨q,rfl⟩:∃ q,fuel=q+1:=⟨fuel-1,by omega⟩
   rw [last q _ i (by omega),List.take_of_length_le (by omega)]
  | succ j ih =>
   intro i fuel h hf
   obtain ⟨q,rfl⟩:∃ q,fuel=q+1:=⟨fuel-1,by omega⟩
   by_cases hi:i < l.length
   ·have e:(l.take i).flatMap f++f l[i]=(l.take (i+1)).flatMap f:=by
     rw [List.take_add_one,List.getElem?_eq_getElem hi,Option.toList_some,List.flatMap_append,List.flatMap_singleton]
    rw [step q i hi,e]
    exact ih (i+1) q (by omega) (by omega)
   ·rw [last q _ i (by omega),List.take_of_length_le (by omega)]
 exact key l.length 0 Z6 (by omega) (by have:=Zbk hn;omega)
theorem WU {α:Type} (f:α→List AV) (l:List α):l.flatMap (fun x=>[f x])=l.map f:=by
 induction l with
 | nil => rfl
 | cons a r ih => rw [List.flatMap_cons, ih, List.map_cons]; rfl
theorem ZS {a b:LL} {k:Nat} (h:a.length+b.length≤4096) (hk:k≤10000):Jr a b k:=by
 unfold Jr Jx
 have:(a.length+b.length)*(k+1)≤4096*10001:=Nat.mul_le_mul h (by omega)
 omega
theorem s62 (l:List Id) (h:l.length≤64):g62 (Zf l)=some (Zf l):=by
 rw [Zl0]
 exact ZO (ZS (by rw [Jz];simp;omega) (by omega)) _
theorem s61 (l:List Id) (h:l.length≤64):g61 (Zf l)=some (Zf l):=by
 rw [ZlY]
 refine Zk5 (fun hn=>?_) ?_
 ·rw [if_pos rfl,hn]
 ·rw [if_neg Bool.false_ne_true]
  exact ZO (ZS (by rw [Jz];simp;omega) (by omega)) _
theorem s39 (n:KP) (h:n.path.length≤64):g39 n.id.core n.id.op n.id.part (Zf n.path) n.cap.kind n.cap.base n.cap.bits n.cap.rights n.cap.width n.cap.level n.cap.device=some (ZkV n):=by
 rw [ZlV,s62 _ h];rfl
theorem s37 (n:KP) (h:n.path.length≤64):g37 n.id.core n.id.op n.id.part (Zf n.path) n.cap.kind n.cap.base n.cap.bits n.cap.rights n.cap.width n.cap.level n.cap.device=some (ZkV n):=by
 rw [Zm2,s61 _ h];rfl
structure Zhi (l:List Z5):Prop where
 len:l.length≤70
 path:∀ s∈l,s.node.path.length≤20
end Go.Proofs.Ytmjkdbpffdampaa
end

section
namespace Go.Proofs.Ytmjkdbpffdampaa
open Go Go.AM
set_option linter.unusedSimpArgs false
set_option linter.unusedVariables false
set_option maxRecDepth 100000
theorem VU {α:Type} (f:α→List AV) (g:α→α) (l:List α) (i o:Nat) (c:List AV) (h:∀ x,l[i]? = some x→setCells (f x) o c=f (g x)):Zy (l.map f) i o c=(l.modify i g).map f:=by
 unfold Zy
 refine List.ext_getElem? fun j=>?_
 rw [List.getElem?_modify,List.getElem?_map,List.getElem?_map,List.getElem?_modify]
 cases hj:l[j]? with
 | none => rfl
 | some x =>
  by_cases hij:i=j
  ·subst hij
   simp [h x hj]
  ·simp [hij]
theorem s12 (l:List Z5) (h:Zhi l):g12 (l.map Jb)=some (l.map Jb):=by
 rw [ZmQ]
 have hn:l.length < 2^63:=by have:=h.len;omega
 refine (Zhe (F:=fun k acc i=>Zge k (l.map Jb) acc i) l (fun r=>[Jb r]) hn (fun k i hi=>?_) (fun k acc i hi=>?_)).trans (by rw [WU])
 ·show Zge (k+1) _ _ _=_
  rw [Zfb,List.length_map,if_pos (K1 hi)]
  refine (Ym hi _).trans ?_
  simp only [ZhG,d2,d4,d8,d16]
  have hp:=h.path l[i] (List.getElem_mem hi)
  rw [s39 l[i].node (by omega),Option.bind_some]
  refine (Ym hi _).trans ?_
  refine (Ym hi _).trans ?_
  refine (ZO (ZS ?_ (by omega)) _).trans ?_
  ·rw [WU]
   have:=h.len
   simp only [List.length_map,List.length_take,List.length_append,List.length_cons,List.length_nil]
   omega
  ·rw [Kw hi hn]
   rfl
 ·show Zge (k+1) _ _ _=_
  rw [Zfb,List.length_map,if_neg (KZ hi)]
def KW (s:Z5):Bool:=if (cop .neq s.op 0)=true then true else !((cop .eql s.lock.core 0)&&((cop .eql s.lock.op 0)&&((cop .eql s.lock.part 0)&&true)))
theorem s34 (s:Z5):g34 s.node.id.core s.node.id.op s.node.id.part (Zf s.node.path) s.node.cap.kind s.node.cap.base s.node.cap.bits s.node.cap.rights s.node.cap.width s.node.cap.level s.node.cap.device s.op s.lock.core s.lock.op s.lock.part=some (KW s):=by
 rw [ZlJ,KW]
 split<;>rfl
theorem s14 (s:Z5):g14 s.node.id.core s.node.id.op s.node.id.part (Zf s.node.path) s.node.cap.kind s.node.cap.base s.node.cap.bits s.node.cap.rights s.node.cap.width s.node.cap.level s.node.cap.device s.op s.lock.core s.lock.op s.lock.part=some (KW s):=by
 rw [ZlF,KW]
 split<;>rfl
def ZmV (op:Int) (s:Z5):Z5:={ s with op:=op }
theorem ZlM (acc:List Z5) (i:Nat) (op:Int):Zy (acc.map Jb) i 11 [AV.val (.int .i64 op)]=(acc.modify i (ZmV op)).map Jb:=VU Jb (ZmV op) acc i 11 _ fun _ _=>rfl
end Go.Proofs.Ytmjkdbpffdampaa
end

section
namespace Go.Proofs.Ytmjkdbpffdampaa
open Go Go.AM
set_option linter.unusedSimpArgs false
set_option linter.unusedVariables false
set_option maxRecDepth 100000
theorem V1 {γ:Type} {F:Nat→Int→Option γ} {n:Nat} (hit:Nat→γ) (p:Nat→Bool) (hn:n < 2^63)
  (step:∀ k i:Nat,i < n→F (k+1) (i:Int)=if p i=true then some (hit i) else F k ((i+1:Nat):Int))
  (last:∀ k:Nat,F (k+1) (n:Int)=some (hit n)) (m:Nat) (hm:m≤n) (h1:∀ j,j < m→p j=false) (h2:m < n→p m=true):F Z6 0=some (hit m):=by
 have key:∀ (j i fuel:Nat),i+j=m→n-i < fuel→F fuel (i:Int)=some (hit m):=by
  intro j
  induction j with
  | zero =>
   intro i fuel h hf
   obtain ⟨q,rfl⟩:∃ q,fuel=q+1:=⟨fuel-1,by omega⟩
   have:i=m:=by omega
   subst this
   by_cases hi:i < n
   ·rw [step q i hi,if_pos (h2 hi)]
   ·have:i=n:=by omega
    subst this
    exact last q
  | succ j ih =>
   intro i fuel h hf
   obtain ⟨q,rfl⟩:∃ q,fuel=q+1:=⟨fuel-1,by omega⟩
   rw [step q i (by omega),if_neg (by rw [h1 i (by omega)];exact Bool.false_ne_true)]
   exact ih (i+1) q (by omega) (by omega)
 exact key m 0 Z6 (by omega) (by have:=Zbk hn;omega)
def K2 {α:Type} (q:α→Bool):List α→Nat
 | [] => 0
 | a :: r => match q a with | true => 0 | false => K2 q r + 1
theorem VR {α:Type} (q:α→Bool):∀ (l:List α),K2 q l≤l.length
 | [] => Nat.le_refl _
 | a :: r => by
  unfold K2
  have:=VR q r
  split<;>simp only [List.length_cons]<;>omega
theorem Wp {α:Type} (q:α→Bool):∀ (l:List α) (j:Nat) (hj:j < l.length),j < K2 q l→q l[j]=false
 | [], j, hj, _ => by simp at hj
 | a :: r, j, hj, h => by
  unfold K2 at h
  split at h
  ·omega
  ·rename_i ha
   cases j with
   | zero => exact ha
   | succ j => exact Wp q r j (by simpa using hj) (by omega)
theorem Zbg {α:Type} (q:α→Bool):∀ (l:List α) (h:K2 q l < l.length),q l[K2 q l]=true
 | [], h => by simp at h
 | a :: r, h => by
  cases ha:q a with
  | true =>
   have e:K2 q (a::r)=0:=by unfold K2;rw [ha]
   simp only [e]
   exact ha
  | false =>
   have e:K2 q (a::r)=K2 q r+1:=by rw [K2];rw [ha]
   have h':K2 q r < r.length:=by rw [e] at h;simpa using h
   have:=Zbg q r h'
   simp only [e]
   exact this
def ZbT (n m:Nat):Int:=if m < n then (m:Int) else -1
theorem ZeR (n m:Nat):cop .geq (ZbT n m) 0=decide (m < n):=by
 unfold ZbT
 rw [ZV]
 split<;>simp only [CQ]<;>constructor<;>intro<;>first | omega | simp_all
theorem Zb8 {n m:Nat} (h:m < n):ZbT n m=(m:Int):=if_pos h
def before (r q:Req):Bool:=ZnE r.id q.id
end Go.Proofs.Ytmjkdbpffdampaa
end

section
namespace Go.Proofs.Ytmjkdbpffdampaa
open Go Go.AM
set_option linter.unusedSimpArgs false
set_option linter.unusedVariables false
set_option maxRecDepth 100000
def JB (s:Z5):Bool:=decide (s.node.id=zid)
theorem ZcZ (s:Z5):((cop .eql s.node.id.core 0)&&((cop .eql s.node.id.op 0)&&((cop .eql s.node.id.part 0)&&true)))=JB s:=by
 rw [ZV,ZkH]
 unfold JB
 rw [decide_eq_true_eq]
theorem s58 (s:Z5):g58 s.node.id.core s.node.id.op s.node.id.part (Zf s.node.path) s.node.cap.kind s.node.cap.base s.node.cap.bits s.node.cap.rights s.node.cap.width s.node.cap.level s.node.cap.device s.op s.lock.core s.lock.op s.lock.part=some (JB s):=by rw [ZmE,ZcZ]
theorem s24 (s:Z5):g24 s.node.id.core s.node.id.op s.node.id.part (Zf s.node.path) s.node.cap.kind s.node.cap.base s.node.cap.bits s.node.cap.rights s.node.cap.width s.node.cap.level s.node.cap.device s.op s.lock.core s.lock.op s.lock.part=some (JB s):=by rw [ZlE,ZcZ]
def lockS (ids:List Id) (by_:Id) (s:Z5):Z5:=if JB s=false∧ids.contains s.node.id=true then { s with lock:=by_ } else s
end Go.Proofs.Ytmjkdbpffdampaa
end

section
namespace Go.Proofs.Ytmjkdbpffdampaa
open Go Go.AM
set_option linter.unusedSimpArgs false
set_option linter.unusedVariables false
set_option maxRecDepth 100000
def ZnJ (n:KP) (s:Z5):Z5:={ s with node:=n }
theorem ZdR {n:KP} (h:JO n=true):n.path.length≤8:=by
 simp only [JO,Bool.and_eq_true,decide_eq_true_eq] at h
 exact h.1.2
theorem Zjt (l:List Z5) (i:Nat) (n:KP):Zy (l.map Jb) i 0 (ZnQ n)=(l.modify i (ZnJ n)).map Jb:=VU Jb (ZnJ n) l i 0 _ fun _ _=>rfl
end Go.Proofs.Ytmjkdbpffdampaa
end

section
namespace Go.Proofs.Ytmjkdbpffdampaa
open Go Go.AM
set_option linter.unusedSimpArgs false
set_option linter.unusedVariables false
set_option maxRecDepth 100000
def rep (k e:Int) (m:Msg):Msg:=⟨k,0,0,m.frm,0,m.region,0,m.op,e,false,WB,[],[],[],[],0,Zii,Zed,Zir⟩
theorem s6 (x n:Int) (h1:1≤n) (h2:n < 2^62):g6 x n=some (x % n):=by
 have e62:(2:Int)^62=4611686018427387904:=by decide
 have hm0:=Int.emod_nonneg x (show n≠0 by omega)
 have hm1:=Int.emod_lt_of_pos x (show 0 < n by omega)
 have ht:iop .rem .i64 x n=x.tmod n:=rfl
 rw [Zn0,if_neg (by simp only [CQ];omega),ZO (by omega),ht]
 have:=Int.tmod_eq_emod (a:=x) (b:=n)
 by_cases hd:0≤x∨n ∣ x
 ·rw [if_pos hd] at this
  rw [if_neg (by simp only [CQ];omega)]
  congr 1
  omega
 ·rw [if_neg hd] at this
  have habs:((n.natAbs:Nat):Int)=n:=by omega
  have hne:x % n≠0:=fun h=>hd (.inr (Int.dvd_of_emod_eq_zero h))
  rw [if_pos (by simp only [CQ];omega),Jj (by omega) (by omega)]
  congr 1
  omega
end Go.Proofs.Ytmjkdbpffdampaa
end

section
namespace Go.Proofs.Ytmjkdbpffdampaa
open Go Go.AM
set_option linter.unusedSimpArgs false
set_option linter.unusedVariables false
set_option maxRecDepth 100000
structure Zj4 where
 root:Bool
 src:Int
 core:Int
 slot:Int
 kind:Int
 base:Int
 bits:Int
 count:Int
 rights:Int
 copy:Bool
def Y3 (s:Zj4):List AV:=[B s.root,I s.src,I s.core,I s.slot,I s.kind,I s.base,I s.bits,I s.count,I s.rights,B s.copy]
theorem Zmn:Try.prog.cellsOf 89=10:=by kernel_rfl
theorem ZkL {d:Nat} {cs:List AV} (h:TyR Try.prog (d+2) 89 cs):∃ s:Zj4,cs=Y3 s:=by
 rw [TyR] at h
 simp only [Try.underlying89] at h
 obtain ⟨ps,rfl,hl,hp⟩:=h
 obtain ⟨p0,p1,p2,p3,p4,p5,p6,p7,p8,p9,rfl⟩:∃ p0 p1 p2 p3 p4 p5 p6 p7 p8 p9,ps = [p0,p1,p2,p3,p4,p5,p6,p7,p8,p9]:=by
  match ps,hl with
  | [p0, p1, p2, p3, p4, p5, p6, p7, p8, p9], _ => exact ⟨p0, p1, p2, p3, p4, p5, p6, p7, p8, p9, rfl⟩
 obtain ⟨a,rfl⟩:=Zeq (hp 0 _ _ rfl rfl)
 obtain ⟨b,rfl⟩:=JW (hp 1 _ _ rfl rfl)
 obtain ⟨c,rfl⟩:=JW (hp 2 _ _ rfl rfl)
 obtain ⟨d,rfl⟩:=JW (hp 3 _ _ rfl rfl)
 obtain ⟨e,rfl⟩:=JW (hp 4 _ _ rfl rfl)
 obtain ⟨f,rfl⟩:=JW (hp 5 _ _ rfl rfl)
 obtain ⟨g,rfl⟩:=JW (hp 6 _ _ rfl rfl)
 obtain ⟨i,rfl⟩:=JW (hp 7 _ _ rfl rfl)
 obtain ⟨j,rfl⟩:=JW (hp 8 _ _ rfl rfl)
 obtain ⟨k,rfl⟩:=Zeq (hp 9 _ _ rfl rfl)
 exact ⟨⟨a,b,c,d,e,f,g,i,j,k⟩,rfl⟩
theorem Zdo {x:AV} (h:KY Try.prog 12 23 x):∃ l:List Zj4,x = .slice false 10 (l.map Y3)∧l.length < 2^63:=by
 simp only [KY,Try.underlying23] at h
 have hh:=h.2
 rw [TyR] at hh
 simp only [Try.underlying23,Zmn] at hh
 obtain ⟨xs,h1,h2,h3⟩:=hh
 obtain ⟨l,rfl,h5⟩:=Zai (f:=Y3) (p:=fun _=>True) xs fun y hy=>(ZkL (h3 y hy)).elim fun a h=>⟨a,h,trivial⟩
 exact ⟨l,by simpa using h1,Zpe (by simpa using h2)⟩
end Go.Proofs.Ytmjkdbpffdampaa
end

section
namespace Go.Proofs.Ytmjkdbpffdampaa
open Go Go.AM
set_option linter.unusedSimpArgs false
set_option linter.unusedVariables false
set_option maxRecDepth 100000
theorem s67 (a b:Int):g67 a b=some (K9 a b):=by
 rw [Zne]
 simp only [s66,Option.bind_some]
 cases h:Yl a b with
 | false => simp [K9, h]
 | true =>
  obtain ⟨h1,h2,h3,h4,h5⟩:=WI h
  have hw:IntKind.wrap .u64 b=b:=Y8 (by omega) (by omega)
  simp only [Bool.not_true,Bool.false_eq_true,if_false,hw]
  rw [ZO (by omega),Zhd h]
theorem s71 (a b c d:Int):g71 a b c d=some (ZmP a b c d):=by
 rw [ZmH]
 simp only [s66,s67,Option.bind_some]
 repeat' split
 all_goals (refine congrArg some ?_;rw [ZV];simp only [ZmP,ZG,ZM,ZA,ZJ,ZD,ZI,ZB,ZC,ZF,ZE,ZK,ZH,Bool.not_eq_true,Bool.not_eq_false,Bool.not_eq_true',Bool.not_eq_false',Bool.and_eq_true,Bool.or_eq_true,decide_eq_true_eq,decide_eq_false_iff_not,Bool.false_eq_true,Bool.true_eq_false,Option.bind_some,Option.some.injEq,false_iff,true_iff,iff_false,iff_true] at *; grind)
theorem s44 (a b c d:Int):g44 a b c d=some (inB a b c d):=by
 rw [Zl3]
 simp only [s66,s67,Option.bind_some]
 repeat' split
 all_goals (refine congrArg some ?_;rw [ZV];simp only [inB,ZG,ZM,ZA,ZJ,ZD,ZI,ZB,ZC,ZF,ZE,ZK,ZH,Bool.not_eq_true,Bool.not_eq_false,Bool.not_eq_true',Bool.not_eq_false',Bool.and_eq_true,Bool.or_eq_true,decide_eq_true_eq,decide_eq_false_iff_not,Bool.false_eq_true,Bool.true_eq_false,Option.bind_some,Option.some.injEq,false_iff,true_iff,iff_false,iff_true] at *; grind)
theorem s50 (k b s r w l:Int) (d:Bool) (m:Int):g50 k b s r w l d m=some (k,b,s,iop .and .i64 r m,w,l,d):=Zm7 ..
end Go.Proofs.Ytmjkdbpffdampaa
end

section
namespace Go.Proofs.Ytmjkdbpffdampaa
open Go Go.AM
set_option linter.unusedSimpArgs false
set_option linter.unusedVariables false
set_option maxRecDepth 100000
theorem l51 {b r w l k s:Int} {d fl:Bool} {lv wd bits sz off obj cnt:Int} (hb:0≤b) (hoff:0≤off) (hsz:0≤sz) (hc:cnt≤8) (hm:b+off+8*sz < 2^62):∀ (j i fuel:Nat),cnt=i+j→j < fuel→
  Kj fuel obj bits lv wd off cnt k b s r w l d fl sz (Jv obj (b+off) sz bits r (if fl=true then wd else 0) (if fl=true then lv else 0) d i) i=some (Jv obj (b+off) sz bits r (if fl=true then wd else 0) (if fl=true then lv else 0) d cnt.toNat,0):=by
 intro j
 have e62:(2:Int)^62=4611686018427387904:=by decide
 induction j with
 | zero =>
  intro i fuel h hf
  obtain ⟨f,rfl⟩:∃ f,fuel=f+1:=⟨fuel-1,by omega⟩
  rw [ZeG,if_neg (by simp only [ZG,ZM,ZA,ZJ,ZD,ZI,ZB,ZC,ZF,ZE,ZK,ZH,Bool.not_eq_true,Bool.not_eq_false,Bool.not_eq_true',Bool.not_eq_false',Bool.and_eq_true,Bool.or_eq_true,decide_eq_true_eq,decide_eq_false_iff_not,Bool.false_eq_true,Bool.true_eq_false,Option.bind_some,Option.some.injEq,false_iff,true_iff,iff_false,iff_true];omega)]
  have:cnt.toNat=i:=by omega
  rw [this]
 | succ j ih =>
  intro i fuel h hf
  obtain ⟨f,rfl⟩:∃ f,fuel=f+1:=⟨fuel-1,by omega⟩
  have hsi:(i:Int)*sz≤8*sz:=Int.mul_le_mul_of_nonneg_right (by omega) hsz
  have hsi0:0≤(i:Int)*sz:=Int.mul_nonneg (by omega) hsz
  have a1:iop .add .i64 b off=b+off:=Jj (by omega) (by omega)
  have a2:iop .mul .i64 i sz=i*sz:=Zkp (by omega) (by omega)
  have a3:iop .add .i64 (b+off) (i*sz)=b+off+i*sz:=Jj (by omega) (by omega)
  have a4:iop .add .i64 i 1=((i+1:Nat):Int):=by rw [Jj (by omega) (by omega)];omega
  have:=ih (i+1) f (by omega) (by omega)
  rw [VV] at this
  rw [ZeG,if_pos (by simp only [ZG,ZM,ZA,ZJ,ZD,ZI,ZB,ZC,ZF,ZE,ZK,ZH,Bool.not_eq_true,Bool.not_eq_false,Bool.not_eq_true',Bool.not_eq_false',Bool.and_eq_true,Bool.or_eq_true,decide_eq_true_eq,decide_eq_false_iff_not,Bool.false_eq_true,Bool.true_eq_false,Option.bind_some,Option.some.injEq,false_iff,true_iff,iff_false,iff_true];omega)]
  cases fl
  ·simp only [Bool.false_eq_true,if_false] at this ⊢
   rw [ZO (Ka (by rw [Kq];simp;omega)),a1,a2,a3,a4]
   exact this
  ·simp only [if_true] at this ⊢
   rw [ZO (Ka (by rw [Kq];simp;omega)),a1,a2,a3,a4]
   exact this
set_option maxHeartbeats 4000000 in
theorem s51 (k b s r w l:Int) (d:Bool) (obj bits level width off cnt:Int):g51 k b s r w l d obj bits level width off cnt =
  some (YB ⟨k,b,s,r,w,l,d⟩ obj bits level width off cnt,Yt ⟨k,b,s,r,w,l,d⟩ obj bits level width off cnt):=by
 rw [Zl2]
 simp only [s64,s73,s74,Option.bind_some]
 by_cases hh:Kk ⟨k,b,s,r,w,l,d⟩=true∧k=1∧iop .and .i64 r 2≠0∧Ki obj bits=true∧(obj=3→Wz width level=true)∧1≤cnt∧cnt≤8∧0≤off
 ·obtain ⟨h1,rfl,h3,h4,h5,h6,h7,h8⟩:=hh
  obtain ⟨n1,n2,n3,n4,n5,n6,n7,n8,n9,n10,n11,n12,n13,n14,n15,n16⟩:=Zfa h1 h4 h6 h7 h8
  have q1:(Zj ((0:Int)≤bits):Option (List (List AV)×Int)→_)=fun x=>x:=Wc n7
  have q2:(Zj ((2:Int)^bits.toNat≠0):Option (List (List AV)×Int)→_)=fun x=>x:=Wc n6
  have hw1:IntKind.wrap .u64 bits=bits:=Y8 n7 (by omega)
  have hw2:IntKind.wrap .u64 s=s:=Y8 n8 (by simp only at n16;omega)
  have q3:(Zj ((0:Int)≤s):Option (List (List AV)×Int)→_)=fun x=>x:=Wc n8
  simp only at n3 n5
  have loop:∀ fl:Bool,off+cnt*2^bits.toNat≤2^s.toNat→Kj Z6 obj bits level width off cnt 1 b s r w l d fl (2^bits.toNat) [] 0=some (Jv obj (b+off) (2^bits.toNat) bits r (if fl=true then width else 0) (if fl=true then level else 0) d cnt.toNat,0):=by
   intro fl hle
   have:=l51 (fl:=fl) (k:=1) (s:=s) (r:=r) (w:=w) (l:=l) (d:=d) (lv:=level) (wd:=width) (bits:=bits) (obj:=obj) (cnt:=cnt) n9 h8 (Int.le_of_lt n11) h7 (show b+off+8*2^bits.toNat < 2^62 by
    have e62:(2:Int)^62=4611686018427387904:=by decide
    simp only at n10
    omega) cnt.toNat 0 Z6 (by omega) (ZaK (by omega))
   exact this
  have n9':0≤b:=n9
  have n10':b+2^s.toNat≤1099511627776:=n10
  have n5':off≤2^s.toNat→iop .sub .i64 (2^s.toNat) off=2^s.toNat-off:=fun h=>Zc6 (by omega) (by omega)
  have hR:Yt ⟨1,b,s,r,w,l,d⟩ obj bits level width off cnt=if d=true∧obj≠1∧obj≠2 then 5 else if off % 2^bits.toNat≠0∨2^s.toNat-cnt*2^bits.toNat < off∨(obj=1∧s≤bits) then 6 else 0:=by
   rw [Yt,if_neg (by simp [h1]),if_neg h3,if_neg (by
    rintro (h | ⟨h,h'⟩ | h | h | h)
    ·rw [h4] at h;cases h
    ·rw [h5 h] at h';cases h'
    ·omega
    ·omega
    ·omega)]
  have hk1:cop .neq (1:Int) 1=false:=rfl
  simp only [hw1,hw2,n1,n2,n3,n4,q1,q2,q3,h1,h4,hk1,Bool.not_true,Bool.false_eq_true,if_false]
  clear n1 n2 n3 n4 n5 q1 q2 q3
  by_cases e5:d=true∧obj≠1∧obj≠2
  ·rw [if_pos e5] at hR
   obtain ⟨hd,e1,e2⟩:=e5
   repeat' (with_reducible refine Zz (fun _=>?_) (fun _=>?_))
   all_goals first
    | exact V9 (by decide) hR
    | (exfalso; simp only [ZG, ZM, ZA, ZJ, ZD, ZI, ZB, ZC, ZF, ZE, ZK, ZH, Bool.not_eq_true, Bool.not_eq_false, Bool.not_eq_true', Bool.not_eq_false', Bool.and_eq_true, Bool.or_eq_true, decide_eq_true_eq, decide_eq_false_iff_not, Bool.false_eq_true, Bool.true_eq_false, Option.bind_some, Option.some.injEq, false_iff, true_iff, iff_false, iff_true] at *; first | omega | grind)
  ·rw [if_neg e5] at hR
   by_cases e6:off % 2^bits.toNat≠0∨2^s.toNat-cnt*2^bits.toNat < off∨(obj=1∧s≤bits)
   ·rw [if_pos e6] at hR
    repeat' (with_reducible refine Zz (fun _=>?_) (fun _=>?_))
    all_goals first
     | exact V9 (by decide) hR
     | (exfalso; simp only [ZG, ZM, ZA, ZJ, ZD, ZI, ZB, ZC, ZF, ZE, ZK, ZH, Bool.not_eq_true, Bool.not_eq_false, Bool.not_eq_true', Bool.not_eq_false', Bool.and_eq_true, Bool.or_eq_true, decide_eq_true_eq, decide_eq_false_iff_not, Bool.false_eq_true, Bool.true_eq_false, Option.bind_some, Option.some.injEq, false_iff, true_iff, iff_false, iff_true] at *; rw [n5' (by omega)] at *; first | omega | grind)
     | (exfalso; simp only [ZG, ZM, ZA, ZJ, ZD, ZI, ZB, ZC, ZF, ZE, ZK, ZH, Bool.not_eq_true, Bool.not_eq_false, Bool.not_eq_true', Bool.not_eq_false', Bool.and_eq_true, Bool.or_eq_true, decide_eq_true_eq, decide_eq_false_iff_not, Bool.false_eq_true, Bool.true_eq_false, Option.bind_some, Option.some.injEq, false_iff, true_iff, iff_false, iff_true] at *; first | omega | grind)
   ·rw [if_neg e6] at hR
    have hL:∀ fl,Kj Z6 obj bits level width off cnt 1 b s r w l d fl (2^bits.toNat) [] 0=some (Jv obj (b+off) (2^bits.toNat) bits r (if fl=true then width else 0) (if fl=true then level else 0) d cnt.toNat,0):=fun fl=>loop fl (by omega)
    have n5:=n5' (by omega)
    simp only [hL,YB,hR,if_true,n5]
    have hfl:(cop .eql obj 3=true)=(obj=3):=by simp only [ZG,ZM,ZA,ZJ,ZD,ZI,ZB,ZC,ZF,ZE,ZK,ZH,Bool.not_eq_true,Bool.not_eq_false,Bool.not_eq_true',Bool.not_eq_false',Bool.and_eq_true,Bool.or_eq_true,decide_eq_true_eq,decide_eq_false_iff_not,Bool.false_eq_true,Bool.true_eq_false,Option.bind_some,Option.some.injEq,false_iff,true_iff,iff_false,iff_true]
    simp only [hfl]
    repeat' (with_reducible refine Zz (fun _=>?_) (fun _=>?_))
    all_goals first
     | rfl
     | (exfalso; simp only [ZG, ZM, ZA, ZJ, ZD, ZI, ZB, ZC, ZF, ZE, ZK, ZH, Bool.not_eq_true, Bool.not_eq_false, Bool.not_eq_true', Bool.not_eq_false', Bool.and_eq_true, Bool.or_eq_true, decide_eq_true_eq, decide_eq_false_iff_not, Bool.false_eq_true, Bool.true_eq_false, Option.bind_some, Option.some.injEq, false_iff, true_iff, iff_false, iff_true] at *; first | omega | grind)
 ·repeat' (with_reducible refine Zz (fun _=>?_) (fun _=>?_))
  all_goals first
   | exact V9 (by decide) (by simp only [ZG, ZM, ZA, ZJ, ZD, ZI, ZB, ZC, ZF, ZE, ZK, ZH, Bool.not_eq_true, Bool.not_eq_false, Bool.not_eq_true', Bool.not_eq_false', Bool.and_eq_true, Bool.or_eq_true, decide_eq_true_eq, decide_eq_false_iff_not, Bool.false_eq_true, Bool.true_eq_false, Option.bind_some, Option.some.injEq, false_iff, true_iff, iff_false, iff_true] at *; simp only [Yt]; grind)
   | (exfalso; simp only [ZG, ZM, ZA, ZJ, ZD, ZI, ZB, ZC, ZF, ZE, ZK, ZH, Bool.not_eq_true, Bool.not_eq_false, Bool.not_eq_true', Bool.not_eq_false', Bool.and_eq_true, Bool.or_eq_true, decide_eq_true_eq, decide_eq_false_iff_not, Bool.false_eq_true, Bool.true_eq_false, Option.bind_some, Option.some.injEq, false_iff, true_iff, iff_false, iff_true] at *; grind)
end Go.Proofs.Ytmjkdbpffdampaa
end

section
namespace Go.Proofs.Ytmjkdbpffdampaa
open Go Go.AM
set_option linter.unusedSimpArgs false
set_option linter.unusedVariables false
set_option maxRecDepth 100000
def Ret {α:Type} (P:α→Prop) (o:Option α):Prop:=∃ r,o=some r∧P r
theorem Zg {α:Type} {P:α→Prop} {a:α} (h:P a):Ret P (some a):=⟨a,rfl,h⟩
theorem Za {α β:Type} {P:β→Prop} {Q:α→Prop} {o:Option α} {f:α→Option β} (h:Ret Q o) (k:∀ r,Q r→Ret P (f r)):Ret P (o.bind f):=by
 obtain ⟨r,rfl,hr⟩:=h
 exact k r hr
theorem Zc {α:Type} {P:α→Prop} {c:Prop} {_:Decidable c} {a b:Option α} (h1:c→Ret P a) (h2:¬ c→Ret P b):Ret P (if c then a else b):=by
 split
 ·exact h1 ‹_›
 ·exact h2 ‹_›
theorem Zd {α:Type} {P:α→Prop} {p:Prop} {_:Decidable p} {x:Option α} (h:p) (k:Ret P x):Ret P (Zj p x):=by
 rw [ZO h];exact k
theorem Z3 {α:Type} {P:α→Prop} {a b:Option α} (h:a=b) (k:Ret P b):Ret P a:=h ▸ k
theorem Ze {α β:Type} {P:β→Prop} {o:Option α} {a:α} {f:α→Option β} (h:o=some a) (k:Ret P (f a)):Ret P (o.bind f):=by
 subst h;exact k
theorem YT {σ γ:Type} {P:γ→Prop} {F:Nat→σ→Int→Option γ} {n:Nat} (J:Nat→σ→Prop) (hn:n < 2^63)
  (step:∀ (k i:Nat) (s:σ),i < n→J i s→(∀ s',J (i+1) s'→Ret P (F k s' ((i+1:Nat):Int)))→Ret P (F (k+1) s (i:Int)))
  (last:∀ (k:Nat) (s:σ),J n s→Ret P (F (k+1) s (n:Int))) (s:σ) (h:J 0 s):Ret P (F Z6 s 0):=by
 have key:∀ (j i fuel:Nat) (s:σ),i+j=n→j < fuel→J i s→Ret P (F fuel s (i:Int)):=by
  intro j
  induction j with
  | zero =>
   intro i fuel s h hf hj
   obtain ⟨q,rfl⟩:∃ q,fuel=q+1:=⟨fuel-1,by omega⟩
   have:i=n:=by omega
   subst this
   exact last q s hj
  | succ j ih =>
   intro i fuel s h hf hj
   obtain ⟨q,rfl⟩:∃ q,fuel=q+1:=⟨fuel-1,by omega⟩
   exact step q i s (by omega) hj fun s' hs=>ih (i+1) q s' (by omega) (by omega) hs
 exact key n 0 Z6 s (by omega) (by have:=Zbk hn;omega) h
theorem place (x n:Int) (h1:1≤n) (h2:n < 2^62):Ret (fun r=>0≤r∧r < n) (g6 x n):=⟨_,s6 x n h1 h2,Int.emod_nonneg x (by omega),Int.emod_lt_of_pos x (by omega)⟩
theorem Z9 (l:List Int) (z:Int):Ret (fun _=>True) (g23 (Zb l) z):=by
 rw [Zj3]
 refine Zc (fun _=>Zg trivial) fun h1=>Zc (fun _=>Zg trivial) fun h2=>?_
 simp only [CQ,Jm] at h1 h2
 have e:z=((z.toNat:Nat):Int):=by omega
 have hl:z.toNat < l.length:=by omega
 have:=Jp (γ:=Int) hl (fun r=>some r)
 rw [← e] at this
 exact Z3 this (Zg trivial)
theorem YG {γ:Type} {P:γ→Prop} {l:List Int} {z:Int} {k:Int→Option γ} (h0:0≤z) (h:z.toNat < l.length) (hk:Ret P (k l[z.toNat])):Ret P (Zq (Zb l) z [.int .i64] k):=by
 have e:z=((z.toNat:Nat):Int):=by omega
 have:=Jp h k
 rw [← e] at this
 exact Z3 this hk
theorem Kx {γ:Type} {P:γ→Prop} {l:List ZL} {z:Int} {k:ShsT ZaI→Option γ} (h0:0≤z) (h:z.toNat < l.length) (hk:Ret P (k (Ya l[z.toNat]))):Ret P (Zq (l.map Zk) z ZaI k):=by
 have e:z=((z.toNat:Nat):Int):=by omega
 have:=Zt h k
 rw [← e] at this
 exact Z3 this hk
def Zin (c:Cap):List AV:=[I c.kind,I c.base,I c.bits,I c.rights,I c.width,I c.level,B c.device]
abbrev ZgZ:List Sh:=[.int .i64,.int .i64,.int .i64,.int .i64,.int .i64,.int .i64,.bool]
def Zlg (c:Cap):ShsT ZgZ:=(c.kind,c.base,c.bits,c.rights,c.width,c.level,c.device)
theorem VY {γ:Type} {l:List Cap} {i:Nat} (h:i < l.length) (k:ShsT ZgZ→Option γ):Zq (l.map Zin) (i:Int) ZgZ k=k (Zlg l[i]):=Kb (fun _=>rfl) h k
def atP {α:Type} (q:α→Bool) (p:List α) (i:Nat):Bool:=match p[i]? with | some x=>q x | none=>false
theorem Kg {α:Type} (q:α→Bool) {p:List α} {i:Nat} (h:i < p.length):atP q p i=q p[i]:=by unfold atP;rw [List.getElem?_eq_getElem h]
def idE (i:Id) (e:ZL):Bool:=decide (e.node.id=i)
def plE (c s:Int) (e:ZL):Bool:=decide (e.core=c)&&decide (e.slot=s)
theorem s70 (l:List ZL) (hn:l.length < 2^63) (j:Id):g70 (l.map Zk) j.core j.op j.part=some (ZbT l.length (K2 (idE j) l)):=by
 rw [ZmO]
 exact V1 (F:=fun k z=>ZfQ k (l.map Zk) j.core j.op j.part z) (n:=l.length) (fun m=>ZbT l.length m) (atP (idE j) l) hn
  (fun k i hi=>by
   show ZfQ (k+1) _ _ _ _ _=_
   rw [ZfD,List.length_map,if_pos (K1 hi)]
   refine (Zt hi _).trans ?_
   simp only [Ya,d2,d4,d8,d16]
   rw [Kw hi hn,Kg _ hi,Zb8 hi,idE]
   refine Zz (fun h1=>?_) fun h1=>?_
   ·rw [if_pos (by rw [K6] at h1;rw [decide_eq_true_eq];exact h1)]
   ·rw [if_neg (by rw [K6] at h1;rw [decide_eq_true_eq];exact h1)])
  (fun k=>by
   show ZfQ (k+1) _ _ _ _ _=_
   rw [ZfD,List.length_map,if_neg (KZ (Nat.le_refl _)),ZbT,if_neg (Nat.lt_irrefl _)]) (K2 (idE j) l) (VR _ l) (fun i hi=>by
    have hl:=VR (idE j) l
    rw [Kg _ (by omega)];exact Wp _ l i (by omega) hi) (fun h=>by rw [Kg _ h];exact Zbg _ l h)
theorem s83 (l:List ZL) (hn:l.length < 2^63) (c s:Int):g83 (l.map Zk) c s=some (ZbT l.length (K2 (plE c s) l)):=by
 rw [Zmf]
 exact V1 (F:=fun k z=>ZdW k (l.map Zk) c s z) (n:=l.length) (fun m=>ZbT l.length m) (atP (plE c s) l) hn
  (fun k i hi=>by
   show ZdW (k+1) _ _ _ _=_
   rw [Zfl,List.length_map,if_pos (K1 hi)]
   refine (Zt hi _).trans ?_
   simp only [Ya,d2,d4,d8,d16]
   rw [Kw hi hn,Kg _ hi,Zb8 hi,plE]
   refine Zz (fun h1=>?_) fun h1=>?_
   ·simp only [CQ] at h1
    refine (Zt hi _).trans ?_
    simp only [Ya,d2,d4,d8,d16]
    refine Zz (fun h2=>?_) fun h2=>?_
    ·simp only [CQ] at h2
     rw [if_pos (by simp [h1,h2])]
    ·simp only [CQ] at h2
     rw [if_neg (by simp [h2])]
   ·simp only [CQ] at h1
    rw [if_neg (by simp [h1])])
  (fun k=>by
   show ZdW (k+1) _ _ _ _=_
   rw [Zfl,List.length_map,if_neg (KZ (Nat.le_refl _)),ZbT,if_neg (Nat.lt_irrefl _)]) (K2 (plE c s) l) (VR _ l) (fun i hi=>by
    have hl:=VR (plE c s) l
    rw [Kg _ (by omega)];exact Wp _ l i (by omega) hi) (fun h=>by rw [Kg _ h];exact Zbg _ l h)
structure Zli (l:List ZL):Prop where
 len:l.length≤100
 path:∀ e∈l,e.node.path.length≤20
theorem s84 (l:List ZL) (h:Zli l):g84 (l.map Zk)=some (l.map Zk):=by
 rw [Zme]
 have hn:l.length < 2^63:=by have:=h.len;omega
 refine (Zhe (F:=fun k acc i=>Zgp k (l.map Zk) acc i) l (fun r=>[Zk r]) hn (fun k i hi=>?_) (fun k acc i hi=>?_)).trans (by rw [WU])
 ·show Zgp (k+1) _ _ _=_
  rw [Zfq,List.length_map,if_pos (K1 hi)]
  refine (Zt hi _).trans ?_
  simp only [Ya,d2,d4,d8,d16]
  refine (Zt hi _).trans ?_
  refine (Zt hi _).trans ?_
  have hp:=h.path l[i] (List.getElem_mem hi)
  simp only [Ya,d2,d4,d8,d16]
  rw [s39 l[i].node (by omega),Option.bind_some]
  refine (ZO (ZS ?_ (by omega)) _).trans ?_
  ·rw [WU]
   have:=h.len
   simp only [List.length_map,List.length_take,List.length_append,List.length_cons,List.length_nil]
   omega
  ·rw [Kw hi hn]
   rfl
 ·show Zgp (k+1) _ _ _=_
  rw [Zfq,List.length_map,if_neg (KZ hi)]
def ZmS (l:List ZL) (x:ZL) (r:List ZL):Prop:=∃ i,i≤l.length∧(∀ j (h:j < l.length),j < i→lte x l[j]=false)∧(∀ h:i < l.length,lte x l[i]=true)∧l.any (idE x.node.id)=false∧l.any (plE x.core x.slot)=false∧r=l.take i++[x]++l.drop i
theorem ZjZ {α:Type} (q:α→Bool) (l:List α) (h:¬ cop .geq (ZbT l.length (K2 q l)) 0=true):l.any q=false:=by
 rw [ZeR,decide_eq_true_eq] at h
 rw [List.any_eq_false]
 intro x hx
 obtain ⟨i,hi,rfl⟩:=List.getElem_of_mem hx
 have:=Wp q l i hi (by omega)
 simp [this]
theorem Zhv {l m:List ZL} (h:Zli l) (hs:∀ e∈m,e∈l) (hl:m.length≤l.length):Zli m:=⟨by have:=h.len;omega,fun e he=>h.path e (hs e he)⟩
theorem s72 (l:List ZL) (h:Zli l) (x:ZL) (hx:x.node.path.length≤20):Ret (fun r=>r=(E0,false)∨∃ m,ZmS l x m∧r=(m.map Zk,true)) (g72 (l.map Zk) x.core x.slot x.node.id.core x.node.id.op x.node.id.part (Zf x.node.path) x.node.cap.kind x.node.cap.base x.node.cap.bits x.node.cap.rights x.node.cap.width x.node.cap.level x.node.cap.device):=by
 have hn:l.length < 2^63:=by have:=h.len;omega
 rw [Znk,s70 l hn x.node.id,Option.bind_some]
 refine Zc (fun _=>Zg (.inl rfl)) fun h1=>?_
 rw [s83 l hn,Option.bind_some]
 refine Zc (fun _=>Zg (.inl rfl)) fun h2=>?_
 have n1:=ZjZ _ _ h1
 have n2:=ZjZ _ _ h2
 have ins:∀ (i:Nat),i≤l.length→(∀ j (h:j < l.length),j < i→lte x l[j]=false)→(∀ h:i < l.length,lte x l[i]=true)→Ret (fun r=>r=(E0,false)∨∃ m,ZmS l x m∧r=(m.map Zk,true)) (Zj ((0:Int)≤(i:Int))<|Zj ((i:Int)≤(List.length (l.map Zk):Int))<|
   (g84 (List.take (Int.toNat (i:Int)) (l.map Zk))).bind fun (r29:LL)=>(g39 x.node.id.core x.node.id.op x.node.id.part (Zf x.node.path) x.node.cap.kind x.node.cap.base x.node.cap.bits x.node.cap.rights x.node.cap.width x.node.cap.level x.node.cap.device).bind fun r30=>
   Zj (Jr r29 (E0++[[I x.core,I x.slot,I r30.1,I r30.2.1,I r30.2.2.1,AV.slice false 3 r30.2.2.2.1,I r30.2.2.2.2.1,I r30.2.2.2.2.2.1,I r30.2.2.2.2.2.2.1,I r30.2.2.2.2.2.2.2.1,I r30.2.2.2.2.2.2.2.2.1,I r30.2.2.2.2.2.2.2.2.2.1,AV.val (.bool r30.2.2.2.2.2.2.2.2.2.2)]]) 120)<|
   Zj ((0:Int)≤(i:Int))<|Zj ((i:Int)≤(List.length (l.map Zk):Int))<|(g84 (List.drop (Int.toNat (i:Int)) (l.map Zk))).bind fun (r41:LL)=>
   Zj (Jr (r29++(E0++[[I x.core,I x.slot,I r30.1,I r30.2.1,I r30.2.2.1,AV.slice false 3 r30.2.2.2.1,I r30.2.2.2.2.1,I r30.2.2.2.2.2.1,I r30.2.2.2.2.2.2.1,I r30.2.2.2.2.2.2.2.1,I r30.2.2.2.2.2.2.2.2.1,I r30.2.2.2.2.2.2.2.2.2.1,AV.val (.bool r30.2.2.2.2.2.2.2.2.2.2)]])) r41 120)<|
   some (((r29++(E0++[[I x.core,I x.slot,I r30.1,I r30.2.1,I r30.2.2.1,AV.slice false 3 r30.2.2.2.1,I r30.2.2.2.2.1,I r30.2.2.2.2.2.1,I r30.2.2.2.2.2.2.1,I r30.2.2.2.2.2.2.2.1,I r30.2.2.2.2.2.2.2.2.1,I r30.2.2.2.2.2.2.2.2.2.1,AV.val (.bool r30.2.2.2.2.2.2.2.2.2.2)]]))++r41),true)):=by
  intro i hi hlo hhi
  have hl:=h.len
  refine Zd (by omega) (Zd (by rw [List.length_map];omega) ?_)
  rw [Int.toNat_natCast,← List.map_take,← List.map_drop,s84 _ (Zhv h (fun e he=>List.mem_of_mem_take he) (by simp;omega)),Option.bind_some,s39 x.node (by omega),Option.bind_some]
  refine Zd (ZS (by simp;omega) (by omega)) (Zd (by omega) (Zd (by rw [List.length_map];omega) ?_))
  rw [s84 _ (Zhv h (fun e he=>List.mem_of_mem_drop he) (by simp)),Option.bind_some]
  refine Zd (ZS (by simp;omega) (by omega)) (Zg (.inr ⟨_,⟨i,hi,hlo,hhi,n1,n2,rfl⟩,?_⟩))
  simp [Zk,ZkV]
 refine YT (F:=fun k (_:Unit) z=>ZfO k (l.map Zk) x.core x.slot x.node.id.core x.node.id.op x.node.id.part (Zf x.node.path) x.node.cap.kind x.node.cap.base x.node.cap.bits x.node.cap.rights x.node.cap.width x.node.cap.level x.node.cap.device z) (n:=l.length) (fun i _=>∀ j (h:j < l.length),j < i→lte x l[j]=false) hn (fun k i _ hi hJ ih=>?_) (fun k _ hJ=>?_) () (fun j _ h0=>absurd h0 (Nat.not_lt_zero _))
 ·show Ret _ (ZfO (k+1) _ _ _ _ _ _ _ _ _ _ _ _ _ _ _)
  rw [ZeO,List.length_map,if_pos (K1 hi)]
  refine Z3 (Zt hi _) ?_
  simp only [Ya,d2,d4,d8,d16]
  rw [s28,Option.bind_some]
  refine Zc (fun hc=>?_) fun hc=>?_
  ·rw [Kw hi hn]
   refine ih () fun j h1 h2=>?_
   by_cases hji:j < i
   ·exact hJ j h1 hji
   ·have:j=i:=by omega
    subst this
    rw [Bool.not_eq_true'] at hc
    exact hc
  ·have:=ins i (by omega) hJ fun _=>by rw [Bool.not_eq_true',Bool.not_eq_false] at hc;exact hc
   rw [List.length_map] at this
   exact this
 ·show Ret _ (ZfO (k+1) _ _ _ _ _ _ _ _ _ _ _ _ _ _ _)
  rw [ZeO,List.length_map,if_neg (KZ (Nat.le_refl _))]
  have:=ins l.length (Nat.le_refl _) hJ fun h=>absurd h (Nat.lt_irrefl _)
  rw [List.length_map] at this
  exact this
theorem s49 (l:List ZL) (h:Zli l) (x:ZL) (hx:x.node.path.length≤20):Ret (fun r=>∃ m,(m=l∨ZmS l x m)∧r=m.map Zk) (g49 (l.map Zk) x.core x.slot x.node.id.core x.node.id.op x.node.id.part (Zf x.node.path) x.node.cap.kind x.node.cap.base x.node.cap.bits x.node.cap.rights x.node.cap.width x.node.cap.level x.node.cap.device):=by
 rw [Zng]
 refine Za (s72 l h x hx) fun r hr=>?_
 rcases hr with rfl | ⟨m,hm,rfl⟩
 ·exact Zc (fun _=>Zg ⟨l,.inl rfl,rfl⟩) fun h=>absurd rfl h
 ·exact Zc (fun h=>absurd h (by simp)) fun _=>Zg ⟨m,.inr hm,rfl⟩
structure ZgL (s:KP) (i:Id) (c:Cap):Prop where
 src:JO s=true
 id:Zc3 i=true
 cap:Kk c=true
 ne:i≠s.id
 fresh:s.path.contains i=false
 room:s.path.length < 8
def WX (s:KP) (i:Id) (c:Cap):KP:=⟨i,s.path++[s.id],c⟩
theorem s52 (s:KP) (hs:s.path.length≤20) (i:Id) (c:Cap):Ret (fun r=>(∃ e:Int,e≠0∧r=(0,0,0,E0,0,0,0,0,0,0,false,e))∨(ZgL s i c∧r=(i.core,i.op,i.part,Zf (s.path++[s.id]),c.kind,c.base,c.bits,c.rights,c.width,c.level,c.device,0)))
  (g52 s.id.core s.id.op s.id.part (Zf s.path) s.cap.kind s.cap.base s.cap.bits s.cap.rights s.cap.width s.cap.level s.cap.device i.core i.op i.part c.kind c.base c.bits c.rights c.width c.level c.device):=by
 rw [ZmI,s43 s (by omega),Option.bind_some]
 refine Zc (fun _=>Zg (.inl ⟨1,by omega,rfl⟩)) fun h1=>?_
 rw [s63,Option.bind_some]
 refine Zc (fun _=>Zg (.inl ⟨1,by omega,rfl⟩)) fun h2=>?_
 rw [s64,Option.bind_some]
 refine Zc (fun _=>Zg (.inl ⟨1,by omega,rfl⟩)) fun h3=>?_
 refine Zc (fun _=>Zg (.inl ⟨1,by omega,rfl⟩)) fun h4=>?_
 rw [K6] at h4
 rw [s65 s.path (by omega),Option.bind_some]
 refine Zc (fun _=>Zg (.inl ⟨1,by omega,rfl⟩)) fun h5=>?_
 refine Zc (fun _=>Zg (.inl ⟨9,by omega,rfl⟩)) fun h6=>?_
 rw [s62 s.path (by omega),Option.bind_some]
 refine Zd (ZS (by rw [Jz];simp;omega) (by omega)) (Zg (.inr ⟨?_,?_⟩))
 ·simp only [Bool.not_eq_true',Bool.not_eq_false] at h1 h2 h3
  simp only [Bool.not_eq_true] at h5
  have h8:=ZdR h1
  simp only [CQ,Jz] at h6
  exact ⟨h1,h2,h3,h4,h5,by omega⟩
 ·simp [Zf,idc]
end Go.Proofs.Ytmjkdbpffdampaa
end

section
namespace Go.Proofs.Ytmjkdbpffdampaa
open Go Go.AM
set_option linter.unusedSimpArgs false
set_option linter.unusedVariables false
set_option maxRecDepth 100000
theorem Znf {a b:Int} (h0:0≤b) (h1:b≤62) (h2:0≤a) (h3:a*2^b.toNat < 2^63):iop .shl .i64 a b=a*2^b.toNat:=by
 have hmin:min b.toNat IntKind.i64.bits=b.toNat:=by
  have:IntKind.i64.bits=64:=rfl
  omega
 simp only [iop,hmin]
 have hp:=JR b.toNat
 have:0≤a*2^b.toNat:=Int.mul_nonneg h2 (by omega)
 rw [Wf (by omega) h3]
theorem s69 (a b:Int):Ret (fun r=>∃ k q:Int,r=(q*2^k.toNat,k)∧6≤k∧k≤16∧0≤q∧q < 2^(16-k).toNat) (g69 a b):=by
 rw [Zni]
 refine Za (place b 11 (by omega) (by omega)) fun x hx=>?_
 obtain ⟨k,hk⟩:∃ k,k=6+x:=⟨_,rfl⟩
 have e1:iop .add .i64 6 x=k:=by rw [Jj (by omega) (by omega),hk]
 have e2:iop .sub .i64 16 k=16-k:=Zc6 (by omega) (by omega)
 have w1:IntKind.wrap .u64 (16-k)=16-k:=Y8 (by omega) (by omega)
 have w2:IntKind.wrap .u64 k=k:=Y8 (by omega) (by omega)
 have hp:(2:Int)^(16-k).toNat < 2^62:=by
  have:=Zhx (m:=(16-k).toNat) (n:=16) (by omega)
  have e:(2:Int)^16=65536:=by decide
  have e:(2:Int)^62=4611686018427387904:=by decide
  omega
 have hp1:=JR (16-k).toNat
 rw [e1,e2,w1,w2,Zlr (by omega)]
 refine Zd (by omega) (Za (place a _ (by omega) hp) fun q hq=>Zd (by omega) (Zg ⟨k,q,?_,by omega,by omega,hq.1,hq.2⟩))
 have hm:q*2^k.toNat < 2^63:=by
  have h1:q*2^k.toNat≤2^(16-k).toNat*2^k.toNat:=Int.mul_le_mul_of_nonneg_right (by omega) (by have:=JR k.toNat;omega)
  rw [← Int.pow_add,show (16-k).toNat+k.toNat=16 by omega] at h1
  have e:(2:Int)^16=65536:=by decide
  have e:(2:Int)^63=9223372036854775808:=by decide
  omega
 rw [Znf (by omega) (by omega) hq.1 hm]
theorem s47 (a b:Int):Ret (fun r=>∃ c:Cap,r=Zlg c∧Kk c=true) (g47 a b):=by
 rw [Zlu]
 refine Za (s69 a b) fun r ⟨k,q,hr,h1,h2,h3,h4⟩=>?_
 subst hr
 refine Zg ⟨⟨1,q*2^k.toNat,k,7,0,0,false⟩,rfl,?_⟩
 have hm:(q+1)*2^k.toNat≤65536:=by
  have h5:(q+1)*2^k.toNat≤2^(16-k).toNat*2^k.toNat:=Int.mul_le_mul_of_nonneg_right (by omega) (by have:=JR k.toNat;omega)
  rw [← Int.pow_add,show (16-k).toNat+k.toNat=16 by omega] at h5
  have e:(2:Int)^16=65536:=by decide
  omega
 rw [Int.add_mul,Int.one_mul] at hm
 have h6:0≤q*2^k.toNat:=Int.mul_nonneg h3 (by have:=JR k.toNat;omega)
 have h7:q*2^k.toNat % 2^k.toNat=0:=Int.mul_emod_left ..
 simp [Kk,Ki,Yl,h6,h7]
 omega
theorem ZiT (c:Cap) (obj bits level width off cnt:Int):∃ cs:List Cap,YB c obj bits level width off cnt=cs.map Zin∧(cs.length:Int)≤max 0 cnt:=by
 unfold YB
 split
 ·refine ⟨(List.range cnt.toNat).map fun (j:Nat)=>⟨obj,c.base+off+(j:Int)*2^bits.toNat,bits,c.rights,if obj=3 then width else 0,if obj=3 then level else 0,c.device⟩,?_,by simp;omega⟩
  rw [List.map_map];rfl
 ·exact ⟨[],rfl,by simp;omega⟩
theorem l48 (rec0:List V→Option Bool) (l:List ZL) (hn:l.length < 2^63) (cs:List Cap) (m i:Nat) (hi:i < cs.length) (ih':Ret (fun _=>True) (rec0 [.l (l.map Zk),.l (cs.map Zin),.i (ZbT l.length m),.i (iop .add .i64 (i:Int) 1)])) :
  Ret (fun _=>True) (Zat rec0 Z6 (l.map Zk) (cs.map Zin) (ZbT l.length m) (i:Int) 0):=by
 refine YT (P:=fun _=>True) (F:=fun k2 (_:Unit) z=>Zat rec0 k2 (l.map Zk) (cs.map Zin) (ZbT l.length m) (i:Int) z) (n:=l.length) (fun _ _=>True) hn (fun k2 t _ ht _ ih2=>?_) (fun k2 _ _=>?_) () trivial
 ·show Ret _ (Zat _ (k2+1) _ _ _ _ _)
  rw [Zfh,List.length_map,if_pos (K1 ht)]
  refine Z3 (Zt ht _) ?_
  simp only [Ya,d2,d4,d8,d16]
  have nxt:Ret (fun _=>True) (Zat rec0 k2 (l.map Zk) (cs.map Zin) (ZbT l.length m) (i:Int) (iop .add .i64 (t:Int) 1)):=by rw [Kw ht hn];exact ih2 () trivial
  refine Zc (fun h1=>?_) fun h1=>?_
  ·rw [ZeR,decide_eq_true_eq] at h1
   refine Zc (fun h2=>?_) fun h2=>?_
   ·rw [s17,Option.bind_some]
    refine Z3 (congrArg (fun z=>Zq (l.map Zk) z _ _) (Zb8 h1)) ?_
    refine Z3 (Zt h1 _) ?_
    simp only [Ya,d2,d4,d8,d16]
    rw [s17,Option.bind_some,s44,Option.bind_some,Option.bind_some]
    refine Z3 (VY hi _) ?_
    simp only [Zlg]
    rw [s17,Option.bind_some,s71,Option.bind_some]
    exact Zc (fun _=>Zc (fun _=>Zg trivial) fun _=>nxt) fun _=>nxt
   ·rw [s17,Option.bind_some]
    refine Z3 (VY hi _) ?_
    simp only [Zlg]
    rw [s17,Option.bind_some,s71,Option.bind_some]
    exact Zc (fun _=>Zg trivial) fun _=>nxt
  ·rw [s17,Option.bind_some]
   refine Z3 (VY hi _) ?_
   simp only [Zlg]
   rw [s17,Option.bind_some,s71,Option.bind_some]
   exact Zc (fun _=>Zg trivial) fun _=>nxt
 ·show Ret _ (Zat _ (k2+1) _ _ _ _ _)
  rw [Zfh,List.length_map,if_neg (KZ (Nat.le_refl _))]
  exact ih'
theorem s48 (l:List ZL) (hn:l.length < 2^63) (j:Id) (cs:List Cap) (hc:cs.length < 2^63):Ret (fun _=>True) (g48 (l.map Zk) j.core j.op j.part (cs.map Zin)):=by
 rw [Zmv,s70 l hn j,Option.bind_some]
 generalize hm:K2 (idE j) l=m
 refine YT (F:=fun k (_:Unit) z=>ZhZ k (l.map Zk) (cs.map Zin) (ZbT l.length m) z) (n:=cs.length) (fun _ _=>True) hc (fun k i _ hi _ ih=>?_) (fun k _ _=>?_) () trivial
 ·show Ret _ (ZhZ (k+1) _ _ _ _)
  rw [ZeH,List.length_map,if_pos (K1 hi)]
  exact l48 _ l hn cs m i hi (by rw [Kw hi hc];exact ih () trivial)
 ·show Ret _ (ZhZ (k+1) _ _ _ _)
  rw [ZeH,List.length_map,if_neg (KZ (Nat.le_refl _))]
  exact Zg trivial
structure EOk (e:ZL):Prop where
 c0:0≤e.core
 c1:e.core < 4
 s0:0≤e.slot
 s1:e.slot < 16
 ic:e.node.id.core=e.core
 o1:1≤e.node.id.op
 o2:e.node.id.op≤40
 p0:0≤e.node.id.part
 p1:e.node.id.part < 3
 ok:JO e.node=true
structure FOk (l:List ZL) (n:Nat):Prop where
 len:l.length≤n
 all:∀ e∈l,EOk e
 asc:l.Pairwise fun a b=>lte a b=true
theorem JN {n:KP} (h:JO n=true):Zc3 n.id=true∧Kk n.cap=true∧n.path.length≤8∧(List.range n.path.length).all (VC n)=true:=by
 simp only [JO,Bool.and_eq_true,decide_eq_true_eq] at h
 exact ⟨h.1.1.1,h.1.1.2,h.1.2,h.2⟩
theorem FOk.few {l:List ZL} {n:Nat} (h:FOk l n) (hn:n≤100):Zli l:=⟨by have:=h.len;omega,fun e he=>by have:=(JN (h.all e he).ok).2.2.1;omega⟩
theorem Zdt {a b:ZL} : lte a b=true↔(a.node.id.core < b.node.id.core∨(a.node.id.core=b.node.id.core∧(a.node.id.op < b.node.id.op∨(a.node.id.op=b.node.id.op∧a.node.id.part < b.node.id.part)))):=by simp [lte,ZnE,Znt]
theorem ZgX {a b c:ZL} (h1:lte a b=true) (h2:lte b c=true):lte a c=true:=by
 rw [Zdt] at *; omega
theorem ZhH {a b:ZL} (h:lte a b=false) (hne:a.node.id≠b.node.id):lte b a=true:=by
 rw [← Bool.not_eq_true,Zdt] at h
 rw [Zdt]
 have:¬ (a.node.id.core=b.node.id.core∧a.node.id.op=b.node.id.op∧a.node.id.part=b.node.id.part):=fun ⟨e1,e2,e3⟩=>hne (by cases ha:a.node.id;cases hb:b.node.id;simp_all)
 omega
theorem Zjs {l m:List ZL} {x:ZL} (h:l.Pairwise fun a b=>lte a b=true) (ha:ZmS l x m):m.Pairwise fun a b=>lte a b=true:=by
 obtain ⟨i,hi,hlo,hhi,hid,_,rfl⟩:=ha
 have hge:∀ j (hj:j < l.length),i≤j→lte x l[j]=true:=by
  intro j hj hij
  have h1:lte x (l[i]'(by omega))=true:=hhi (by omega)
  by_cases hji:j=i
  ·subst hji;exact h1
  ·exact ZgX h1 (List.pairwise_iff_getElem.1 h i j (by omega) hj (by omega))
 rw [List.pairwise_append,List.pairwise_append]
 refine ⟨⟨h.take,List.pairwise_singleton ..,fun a ha b hb=>?_⟩,h.drop,fun a ha b hb=>?_⟩
 ·rw [List.mem_singleton] at hb
  subst hb
  obtain ⟨j,hj,rfl⟩:=List.getElem_of_mem ha
  rw [List.length_take] at hj
  rw [List.getElem_take]
  refine ZhH (hlo j (by omega) (by omega)) fun he=>?_
  rw [List.any_eq_false] at hid
  have:=hid _ (List.getElem_mem (show j < l.length by omega))
  rw [idE,decide_eq_true_eq] at this
  exact this he.symm
 ·obtain ⟨k,hk,rfl⟩:=List.getElem_of_mem hb
  rw [List.length_drop] at hk
  rw [List.getElem_drop]
  rw [List.mem_append,List.mem_singleton] at ha
  rcases ha with ha | rfl
  ·obtain ⟨j,hj,rfl⟩:=List.getElem_of_mem ha
   rw [List.length_take] at hj
   rw [List.getElem_take]
   exact List.pairwise_iff_getElem.1 h j (i+k) (by omega) (by omega) (by omega)
  ·exact hge (i+k) (by omega) (by omega)
theorem ZgQ {l m:List ZL} {x:ZL} {n:Nat} (h:FOk l n) (hx:EOk x) (ha:m=l∨ZmS l x m):FOk m (n+1):=by
 rcases ha with rfl | ha
 ·exact ⟨by have:=h.len;omega,h.all,h.asc⟩
 ·have hasc:=Zjs h.asc ha
  obtain ⟨i,hi,_,_,_,_,rfl⟩:=ha
  refine ⟨by have:=h.len;simp;omega,fun e he=>?_,hasc⟩
  simp only [List.mem_append,List.mem_singleton] at he
  rcases he with (he | rfl) | he
  ·exact h.all e (List.mem_of_mem_take he)
  ·exact hx
  ·exact h.all e (List.mem_of_mem_drop he)
theorem Zk9 (i:Id) (c:Cap) (hi:Zc3 i=true) (hc:Kk c=true):JO ⟨i,[],c⟩=true:=by simp [JO,hi,hc]
theorem ZeD {s:KP} {i:Id} {c:Cap} (h:ZgL s i c):JO (WX s i c)=true:=by
 obtain ⟨k1,k2,k3,k4⟩:=JN h.src
 have hr:=h.room
 simp only [JO,WX,Bool.and_eq_true,decide_eq_true_eq,h.id,h.cap,true_and,List.length_append,List.length_cons,List.length_nil]
 refine ⟨by omega,?_⟩
 rw [List.all_eq_true] at k4 ⊢
 intro j hj
 rw [List.mem_range] at hj
 by_cases hjl:j < s.path.length
 ·have:=k4 j (List.mem_range.2 hjl)
  simp only [VC,List.getElem?_eq_getElem hjl] at this
  simp only [VC,List.getElem?_append_left hjl,List.getElem?_eq_getElem hjl,List.take_append_of_le_length (Nat.le_of_lt hjl)]
  simp only [Bool.and_eq_true,decide_eq_true_eq] at this ⊢
  refine ⟨⟨this.1.1,fun he=>?_⟩,this.2⟩
  have hf:=h.fresh
  rw [← he] at hf
  simp at hf
 ·have hje:j=s.path.length:=by omega
  subst hje
  simp only [VC,List.getElem?_append_right (Nat.le_refl _),Nat.sub_self,List.getElem?_cons_zero,List.take_left]
  simp only [Bool.and_eq_true,decide_eq_true_eq]
  refine ⟨⟨k1,fun he=>h.ne he.symm⟩,?_⟩
  rw [Bool.not_eq_true',← Bool.not_eq_true,List.contains_iff_mem]
  intro hm
  obtain ⟨t,ht,hte⟩:=List.getElem_of_mem hm
  have:=k4 t (List.mem_range.2 ht)
  simp only [VC,List.getElem?_eq_getElem ht,hte] at this
  simp at this
theorem l29 (src:KP) (hs:src.path.length≤20) (root:Bool) (op core slot:Int) (hc0:0≤core) (hc1:core < 4) (hs0:0≤slot) (hs1:slot < 8) (h1:1≤op) (h2:op≤40) (cs:List Cap) (hcs:cs.length≤3) (l:List ZL) (n:Nat) (hn:n≤60) (h:FOk l n) :
  Ret (fun r=>∃ m,FOk m (n+3)∧r=m.map Zk) (ZcK Z6 (l.map Zk) op core slot src.id.core src.id.op src.id.part (Zf src.path) src.cap.kind src.cap.base src.cap.bits src.cap.rights src.cap.width src.cap.level src.cap.device (cs.map Zin) 0):=by
 refine YT (F:=fun k (s:LL) z=>ZcK k s op core slot src.id.core src.id.op src.id.part (Zf src.path) src.cap.kind src.cap.base src.cap.bits src.cap.rights src.cap.width src.cap.level src.cap.device (cs.map Zin) z) (n:=cs.length) (fun i s=>∃ m,FOk m (n+i)∧s=m.map Zk) (by omega) (fun k i s hi hj ih=>?_) (fun k s hj=>?_) _ ⟨l,h,rfl⟩
 ·obtain ⟨m,hm,rfl⟩:=hj
  show Ret _ (ZcK (k+1) _ _ _ _ _ _ _ _ _ _ _ _ _ _ _ _ _)
  rw [ZeF,List.length_map,if_pos (K1 hi)]
  refine Z3 (VY hi _) ?_
  simp only [Zlg]
  refine Za (s52 src hs ⟨core,op,(i:Int)⟩ cs[i]) fun r hr=>?_
  rcases hr with ⟨e,he,rfl⟩ | ⟨hk,rfl⟩
  ·refine Zc (fun _=>Zg ⟨m,⟨by have:=hm.len;omega,hm.all,hm.asc⟩,rfl⟩) fun hh=>?_
   simp only [CQ] at hh
   exact absurd hh (by omega)
  ·refine Zc (fun hh=>absurd hh (by simp [cop])) fun _=>?_
   have ho:=JN (ZeD hk)
   have hx:EOk ⟨core,slot+i,WX src ⟨core,op,(i:Int)⟩ cs[i]⟩:=⟨hc0,hc1,by show 0≤slot+i;omega,by show slot+i < 16;omega,rfl,h1,h2,by show (0:Int)≤i;omega,by show (i:Int) < 3;omega,ZeD hk⟩
   have ea:iop .add .i64 slot (i:Int)=slot+i:=Jj (by omega) (by omega)
   rw [ea]
   refine Za (s49 m (hm.few (by omega)) ⟨core,slot+i,WX src ⟨core,op,(i:Int)⟩ cs[i]⟩ (by have:=ho.2.2.1;show (WX src ⟨core,op,(i:Int)⟩ cs[i]).path.length≤20;omega)) fun r ⟨m',hm',hr⟩=>?_
   subst hr
   rw [Kw hi (by omega)]
   exact ih _ ⟨m',ZgQ hm hx hm',rfl⟩
 ·obtain ⟨m,hm,rfl⟩:=hj
  show Ret _ (ZcK (k+1) _ _ _ _ _ _ _ _ _ _ _ _ _ _ _ _ _)
  rw [ZeF,List.length_map,if_neg (KZ (Nat.le_refl _))]
  exact Zg ⟨m,⟨by have:=hm.len;omega,hm.all,hm.asc⟩,rfl⟩
theorem ZoD (l:List ZL) (n:Nat) (hn:n≤60) (h:FOk l n) (core slot op base bits:Int) (hc0:0≤core) (hc1:core < 4) (hs0:0≤slot) (hs1:slot < 8) (h1:1≤op) (h2:op≤40) :
    Ret (fun r=>∃ m,FOk m (n+3)∧r=m.map Zk) ((g47 base bits).bind fun r14=>
 (g48 (l.map Zk) 0 0 0 (E0++[[I r14.1,I r14.2.1,I r14.2.2.1,I r14.2.2.2.1,I r14.2.2.2.2.1,I r14.2.2.2.2.2.1,AV.val (.bool r14.2.2.2.2.2.2)]])).bind fun (r21:Bool)=>
 if r21=true then some (l.map Zk) else
 (g49 (l.map Zk) core slot core op 0 E0 r14.1 r14.2.1 r14.2.2.1 r14.2.2.2.1 r14.2.2.2.2.1 r14.2.2.2.2.2.1 r14.2.2.2.2.2.2).bind fun (r22:LL)=>some (r22)):=by
  refine Za (s47 base bits) fun r ⟨c,hr,hc⟩=>?_
  subst hr
  have hl:=h.len
  refine Za (s48 l (by omega) ⟨0,0,0⟩ [c] (by simp)) fun b _=>?_
  refine Zc (fun _=>Zg ⟨l,⟨by omega,h.all,h.asc⟩,rfl⟩) fun _=>?_
  have hi:Zc3 ⟨core,op,0⟩=true:=by simp [Zc3];omega
  have hx:EOk ⟨core,slot,⟨⟨core,op,0⟩,[],c⟩⟩:=⟨hc0,hc1,hs0,by show slot < 16;omega,rfl,h1,h2,Int.le_refl _,by show (0:Int) < 3;omega,Zk9 _ _ hi hc⟩
  refine Za (s49 l (h.few (by omega)) ⟨core,slot,⟨⟨core,op,0⟩,[],c⟩⟩ (by simp)) fun r ⟨m',hm',hr⟩=>?_
  subst hr
  have:=ZgQ h hx hm'
  exact Zg ⟨m',⟨by have:=this.len;omega,this.all,this.asc⟩,rfl⟩
theorem s29 (l:List ZL) (n:Nat) (hn:n≤60) (h:FOk l n) (root copy:Bool) (src core slot kind base bits count rights op:Int) (h1:1≤op) (h2:op≤40) :
  Ret (fun r=>∃ m,FOk m (n+3)∧r=m.map Zk) (g29 (l.map Zk) root src core slot kind base bits count rights copy op):=by
 have hl:=h.len
 rw [ZlN]
 refine Za (place core 4 (by omega) (by omega)) fun c hc=>Za (place slot 8 (by omega) (by omega)) fun s hs=>?_
 refine Zc (fun _=>ZoD l n hn h c s op base bits hc.1 hc.2 hs.1 hs.2 h1 h2) fun _=>?_
 refine Zc (fun _=>ZoD l n hn h c s op base bits hc.1 hc.2 hs.1 hs.2 h1 h2) fun h3=>?_
 simp only [CQ,List.length_map] at h3
 rw [List.length_map]
 refine Za (place src _ (by omega) (by omega)) fun i hi=>?_
 have hil:i.toNat < l.length:=by omega
 refine Kx hi.1 hil ?_
 simp only [Ya,d2,d4,d8,d16]
 have he:=h.all _ (List.getElem_mem hil)
 have ho:=JN he.ok
 generalize l[i.toNat]=e at he ho
 refine Za (place rights 8 (by omega) (by omega)) fun r28 _=>?_
 rw [s50,Option.bind_some]
 refine Zc (fun _=>?_) fun _=>?_
 ·refine Za (place kind 6 (by omega) (by omega)) fun r36 h36=>Za (place bits 10 (by omega) (by omega)) fun r37 h37=>?_
  have e1:iop .add .i64 6 r37=6+r37:=Jj (by omega) (by omega)
  have e2:iop .sub .i64 (iop .add .i64 1 r36) 1=r36:=by rw [Jj (by omega) (by omega),Zc6 (by omega) (by omega)];omega
  rw [e1,e2]
  refine YG (l:=[6+r37,12,12,6,10,16]) h36.1 (by simp;omega) ?_
  have hb:∀ x∈[6+r37,12,12,6,10,16],0≤x∧x≤16:=by
   intro x hx
   simp only [List.mem_cons,List.not_mem_nil,or_false] at hx
   omega
  have hb':=hb _ (List.getElem_mem (show r36.toNat < [6+r37,12,12,6,10,16].length by simp;omega))
  generalize [6+r37,12,12,6,10,16][r36.toNat]'(by simp;omega)=r38 at hb'
  refine Za (place rights 2 (by omega) (by omega)) fun r39 _=>Za (place base 8 (by omega) (by omega)) fun r40 _=>?_
  refine Zd (by rw [Y8 (by omega) (by omega)];omega) (Za (place count 3 (by omega) (by omega)) fun r41 h41=>?_)
  rw [s51,Option.bind_some]
  refine Zc (fun _=>Zg ⟨l,⟨by omega,h.all,h.asc⟩,rfl⟩) fun _=>?_
  obtain ⟨cs,hcs,hcl⟩:=ZiT ⟨e.node.cap.kind,e.node.cap.base,e.node.cap.bits,e.node.cap.rights,e.node.cap.width,e.node.cap.level,e.node.cap.device⟩ (iop .add .i64 1 r36) r38 r39 32 (iop .shl .i64 r40 (IntKind.wrap .u64 r38)) (iop .add .i64 1 r41)
  rw [hcs]
  have e3:iop .add .i64 1 r41=1+r41:=Jj (by omega) (by omega)
  rw [e3] at hcl
  refine Za (s48 l (by omega) e.node.id cs (by omega)) fun b _=>?_
  refine Zc (fun _=>Zg ⟨l,⟨by omega,h.all,h.asc⟩,rfl⟩) fun _=>?_
  exact l29 e.node (by omega) true op c s hc.1 hc.2 hs.1 hs.2 h1 h2 cs (by omega) l n hn h
 ·exact l29 e.node (by omega) true op c s hc.1 hc.2 hs.1 hs.2 h1 h2 [⟨e.node.cap.kind,e.node.cap.base,e.node.cap.bits,iop .and .i64 e.node.cap.rights r28,e.node.cap.width,e.node.cap.level,e.node.cap.device⟩] (by simp) l n hn h
def Zkw (s:Zj4):Bool×Int×Int×Int×Int×Int×Int×Int×Int×Bool:=(s.root,s.src,s.core,s.slot,s.kind,s.base,s.bits,s.count,s.rights,s.copy)
theorem Zf7 {γ:Type} {l:List Zj4} {i:Nat} (h:i < l.length) (k:(Bool×Int×Int×Int×Int×Int×Int×Int×Int×Bool)→Option γ):Zq (l.map Y3) (i:Int) [.bool,.int .i64,.int .i64,.int .i64,.int .i64,.int .i64,.int .i64,.int .i64,.int .i64,.bool] k=k (Zkw l[i]):=Kb (f:=Y3) (sh:=[.bool,.int .i64,.int .i64,.int .i64,.int .i64,.int .i64,.int .i64,.int .i64,.int .i64,.bool]) (v:=Zkw) (fun _=>rfl) h k
theorem s8 (l:List Zj4) (hn:l.length < 2^63):Ret (fun r=>∃ m,FOk m 30∧r=m.map Zk) (g8 (l.map Y3)):=by
 rw [Zn3]
 have key:∀ (d i fuel:Nat) (m:List ZL),i+d=41→d < fuel→FOk m 30→Ret (fun r=>∃ m,FOk m 30∧r=m.map Zk) (Znw fuel (l.map Y3) (m.map Zk) (i:Int)):=by
  intro d
  induction d with
  | zero =>
   intro i fuel m hi hf hm
   obtain ⟨q,rfl⟩:∃ q,fuel=q+1:=⟨fuel-1,by omega⟩
   rw [ZhW]
   refine Zc (fun _=>?_) fun _=>Zg ⟨m,hm,rfl⟩
   rw [if_neg (by simp only [CQ];omega)]
   exact Zg ⟨m,hm,rfl⟩
  | succ d ih =>
   intro i fuel m hi hf hm
   obtain ⟨q,rfl⟩:∃ q,fuel=q+1:=⟨fuel-1,by omega⟩
   rw [ZhW]
   refine Zc (fun h1=>?_) fun _=>Zg ⟨m,hm,rfl⟩
   refine Zc (fun h2=>?_) fun _=>Zg ⟨m,hm,rfl⟩
   refine Zc (fun h3=>?_) fun _=>Zg ⟨m,hm,rfl⟩
   simp only [CQ,List.length_map] at h1 h2 h3
   have hil:i < l.length:=by omega
   refine Z3 (Zf7 hil _) ?_
   simp only [Zkw]
   have e:iop .add .i64 (i:Int) 1=((i+1:Nat):Int):=Kw hil hn
   rw [e]
   refine Za (s29 m 27 (by omega) ⟨by omega,hm.all,hm.asc⟩ _ _ _ _ _ _ _ _ _ _ _ (by omega) (by omega)) fun r ⟨m',hm',hr⟩=>?_
   subst hr
   exact ih (i+1) q m' (by omega) (by omega) hm'
 exact key 41 0 Z6 [] rfl (by have:=@Zbk 41 (by omega);omega) ⟨by simp,by simp,List.Pairwise.nil⟩
end Go.Proofs.Ytmjkdbpffdampaa
end

section
namespace Go.Proofs.Ytmjkdbpffdampaa
open Go Go.AM
set_option linter.unusedSimpArgs false
set_option linter.unusedVariables false
set_option maxRecDepth 100000
structure SOk (l:List ZL) (s:List Z5):Prop where
 len:s.length=12
 spot:∀ t (h:t < s.length),s[t].op=0∧s[t].lock=zid∧(s[t].node=Jo∨∃ e∈l,e.slot=(t:Int)∧s[t].node=e.node)
theorem SOk.all {l:List ZL} {s:List Z5} (h:SOk l s):∀ x∈s,x.op=0∧x.lock=zid∧(x.node=Jo∨∃ e∈l,x.node=e.node):=by
 intro x hx
 obtain ⟨t,ht,rfl⟩:=List.getElem_of_mem hx
 obtain ⟨h1,h2,h3⟩:=h.spot t ht
 exact ⟨h1,h2,h3.imp id fun ⟨e,he,_,hn⟩=>⟨e,he,hn⟩⟩
theorem SOk.few {l:List ZL} {s:List Z5} {n:Nat} (h:SOk l s) (hf:FOk l n):Zhi s:=by
 refine ⟨by have:=h.len;omega,fun x hx=>?_⟩
 rcases (h.all x hx).2.2 with e | ⟨e,he,hne⟩
 ·rw [e];simp [Jo]
 ·have:=(JN (hf.all e he).ok).2.2.1
  rw [hne];omega
theorem s20 (l:List ZL) (n:Nat) (hn:n≤60) (hf:FOk l n) (c:Int):Ret (fun r=>∃ s,SOk l s∧r=s.map Jb) (g20 (l.map Zk) c):=by
 have hl:=hf.len
 rw [ZmB]
 refine Zd (by decide) (Zd (by decide) (Zd (by decide) ?_))
 refine YT (F:=fun k (s:LL) z=>ZcB k (l.map Zk) c s z) (n:=l.length) (fun i s=>∃ s',SOk l s'∧s=s'.map Jb) (by omega) (fun k i s hi hj ih=>?_) (fun k s hj=>?_) _ ⟨List.replicate 12 ⟨Jo,0,zid⟩,⟨rfl,fun t ht=>?_⟩,rfl⟩
 ·obtain ⟨s,hs,rfl⟩:=hj
  show Ret _ (ZcB (k+1) _ _ _ _)
  rw [Ze4,List.length_map,if_pos (K1 hi)]
  refine Z3 (Zt hi _) ?_
  simp only [Ya,d2,d4,d8,d16]
  have nxt:Ret (fun r=>∃ s,SOk l s∧r=s.map Jb) (ZcB k (l.map Zk) c (s.map Jb) (iop .add .i64 (i:Int) 1)):=by rw [Kw hi (by omega)];exact ih _ ⟨s,hs,rfl⟩
  refine Zc (fun _=>?_) fun _=>nxt
  refine Z3 (Zt hi _) ?_
  simp only [Ya,d2,d4,d8,d16]
  refine Zc (fun h1=>?_) fun _=>nxt
  simp only [CQ] at h1
  refine Z3 (Zt hi _) ?_
  simp only [Ya,d2,d4,d8,d16]
  refine Z3 (Zt hi _) ?_
  simp only [Ya,d2,d4,d8,d16]
  have he:=hf.all _ (List.getElem_mem hi)
  have hp:=(JN he.ok).2.2.1
  rw [s39 l[i].node (by omega),Option.bind_some]
  have h0:=he.s0
  have hsl:=hs.len
  refine Zd (by omega) (Zd (by rw [List.length_map];omega) (Zd (by omega) (Zd (by rw [List.length_map];omega) ?_)))
  rw [Kw hi (by omega)]
  refine ih _ ⟨s.modify l[i].slot.toNat (ZnJ l[i].node),⟨by rw [List.length_modify];exact hsl,fun t ht=>?_⟩,Zjt s _ l[i].node⟩
  rw [List.length_modify] at ht
  rw [List.getElem_modify]
  have ha:=hs.spot t ht
  split
  ·exact ⟨ha.1,ha.2.1,.inr ⟨l[i],List.getElem_mem hi,by omega,rfl⟩⟩
  ·exact ha
 ·obtain ⟨s,hs,rfl⟩:=hj
  show Ret _ (ZcB (k+1) _ _ _ _)
  rw [Ze4,List.length_map,if_neg (KZ (Nat.le_refl _))]
  exact Zg ⟨s,hs,rfl⟩
 ·rw [List.getElem_replicate]
  exact ⟨rfl,rfl,.inl rfl⟩
theorem ZgU (n:KP) (hn:n.path.length < 2^63):g15 n.id.core n.id.op n.id.part (Zf n.path) n.cap.kind n.cap.base n.cap.bits n.cap.rights n.cap.width n.cap.level n.cap.device n.id.core n.id.op n.id.part (Zf n.path) n.cap.kind n.cap.base n.cap.bits n.cap.rights n.cap.width n.cap.level n.cap.device=some true:=s15 n.id.core n.id.op n.id.part n.path hn n.cap.kind n.cap.base n.cap.bits n.cap.rights n.cap.width n.cap.level n.cap.device
end Go.Proofs.Ytmjkdbpffdampaa
end

section
namespace Go.Proofs.Ytmjkdbpffdampaa
open Go Go.AM
set_option linter.unusedSimpArgs false
set_option linter.unusedVariables false
set_option maxRecDepth 100000
theorem Zcs {α:Type} (lt:α→α→Bool) (l:List α):Zfr lt l=true↔∀ j (h:j+1 < l.length),lt l[j] l[j+1]=true:=by
 rw [Zfr,List.all_eq_true]
 constructor
 ·intro h j hj
  have:=h (j+1) (by rw [List.mem_range'_1];omega)
  rw [ZgS lt hj] at this
  exact this
 ·intro h i hi
  rw [List.mem_range'_1] at hi
  match i with
  | 0 => rfl
  | j + 1 => rw [ZgS lt (by omega)]; exact h j (by omega)
theorem Ziy {α:Type} {lt:α→α→Bool} {l:List α} {a:α} (h:Zfr lt l=true) (ha:∀ h:0 < l.length,lt (l[l.length-1]'(by omega)) a=true):Zfr lt (l++[a])=true:=by
 rw [Zcs] at h ⊢
 intro j hj
 rw [List.length_append,List.length_cons,List.length_nil] at hj
 by_cases hjl:j+1 < l.length
 ·rw [List.getElem_append_left (by omega),List.getElem_append_left hjl]
  exact h j hjl
 ·have e:j=l.length-1:=by omega
  subst e
  rw [List.getElem_append_left (by omega),List.getElem_append_right (by omega)]
  have:=ha (by omega)
  simpa using this
theorem Zjd {α:Type} {lt:α→α→Bool} {l:List α} (h:l.Pairwise fun a b=>lt a b=true):Zfr lt l=true:=by
 rw [Zcs]
 intro j hj
 exact List.pairwise_iff_getElem.1 h j (j+1) (by omega) hj (by omega)
theorem WO {α:Type} (f:α→List AV) (l:List α) (a:α):l.map f++(E0++[f a])=(l++[a]).map f:=by simp
theorem KV {α:Type} {P:α→Prop} {l:List α} {a:α} (h:∀ x∈l,P x) (ha:P a):∀ x∈l++[a],P x:=by
 intro x hx
 simp only [List.mem_append,List.mem_singleton] at hx
 rcases hx with hx | rfl
 ·exact h x hx
 ·exact ha
theorem Yw {σ γ:Type} {P:γ→Prop} {F:Nat→σ→Int→Option γ} (n:Nat) (J:Nat→σ→Prop) (hn:n < 1000)
  (step:∀ (k i:Nat) (s:σ),i≤n→J i s→(i < n→∀ s',J (i+1) s'→Ret P (F k s' ((i+1:Nat):Int)))→Ret P (F (k+1) s (i:Int))) (s:σ) (h:J 0 s):Ret P (F Z6 s 0):=by
 refine YT (F:=F) (n:=n) J (by omega) (fun k i s hi hj ih=>step k i s (by omega) hj fun _=>ih) (fun k s hj=>step k n s (Nat.le_refl _) hj fun h=>absurd h (Nat.lt_irrefl _)) s h
theorem Zee {i n:Nat} (h:i≤n) (hn:n < 1000):iop .add .i64 (i:Int) 1=((i+1:Nat):Int):=by
 rw [Jj (by omega) (by omega)];omega
def Rng (z:Int):Prop:=-(2^63:Int)≤z∧z < 2^63
def ZfX (c:Call):List Int:=[c.kind,c.slot,c.dest,c.core,c.mask,c.object,c.bits,c.level,c.offset,c.count,c.index,c.addr]
def RL (l:List Int):Prop:=∀ x∈l,Rng x
def ZmF (s:WH):Prop:=∀ q∈s.pending,∀ z∈ZfX q.call,Rng z
theorem Zba {z:Int} (h1:0≤z) (h2:z < 1000000):Rng z:=⟨by omega,by omega⟩
theorem Zhf (l:List Int) (z:Int):Ret (fun v=>RL l→Rng v) (g23 (Zb l) z):=by
 rw [Zj3]
 refine Zc (fun _=>Zg fun _=>⟨by decide,by decide⟩) fun h1=>Zc (fun _=>Zg fun _=>⟨by decide,by decide⟩) fun h2=>?_
 simp only [CQ,Jm] at h1 h2
 have e:z=((z.toNat:Nat):Int):=by omega
 have hl:z.toNat < l.length:=by omega
 have:=Jp (γ:=Int) hl (fun r=>some r)
 rw [← e] at this
 exact Z3 this (Zg fun h=>h _ (List.getElem_mem hl))
structure ZnP (i:Id):Prop where
 c0:0≤i.core
 c1:i.core < 4
 o0:1≤i.op
 o1:i.op≤20
 p:i.part=0
theorem ZnP.ok {i:Id} (h:ZnP i):ZfS i=true:=by
 obtain ⟨h1,h2,h3,h4,h5⟩:=h
 simp only [ZfS,Zc3,Bool.and_eq_true,decide_eq_true_eq]
 omega
theorem s25 (x:Int):Ret (fun r=>∃ i:Id,r=(i.core,i.op,i.part)∧ZnP i) (g25 x):=by
 rw [ZmM]
 refine Za (place x 4 (by omega) (by omega)) fun a ha=>Zd (by omega) (Za (place _ 20 (by omega) (by omega)) fun b hb=>?_)
 have e:iop .add .i64 1 b=1+b:=Jj (by omega) (by omega)
 rw [e]
 exact Zg ⟨⟨a,1+b,0⟩,rfl,⟨ha.1,ha.2,by show 1≤1+b;omega,by show 1+b≤20;omega,rfl⟩⟩
theorem s27 (l:List Int) (z:Int) (hz:0≤z):Ret (fun r=>∃ m:List Int,r=Zb m∧m.length≤l.length∧(RL l→RL m)) (g27 (Zb l) z):=by
 rw [ZlR,Jm]
 refine Zc (fun _=>Zg ⟨[],rfl,by simp,fun _ x hx=>by cases hx⟩) fun h=>?_
 simp only [CQ] at h
 refine Zd hz (Zd (by omega) (Zg ⟨l.drop z.toNat,?_,by simp,fun h x hx=>h x (List.mem_of_mem_drop hx)⟩))
 exact (List.map_drop ..).symm
theorem ZbV {γ:Type} {P:γ→Prop} {a b z:Int} {k:Int→Option γ} (h0:0≤z) (h:z < 2) (hk:∀ x,x=a∨x=b→Ret P (k x)):Ret P (Zq ((E0++[[I a]])++[[I b]]) z [.int .i64] k):=
 YG (l:=[a,b]) h0 (by simp;omega) (hk _ (by rcases (by omega:z=0∨z=1) with rfl | rfl<;>simp))
theorem Zeh:W8 Jo Jo=true:=by kernel_rfl
theorem s26 (l:List Int) (n:KP) (hn:JO n=true) (hp:n.path.length≤20):Ret (fun r=>∃ q:Req,r=ZoL q∧(q.src.path.length≤20∧q.call.dest < 8)∧WG q=true∧(RL l→∀ z∈ZfX q.call,Rng z)) (g26 (Zb l) n.id.core n.id.op n.id.part (Zf n.path) n.cap.kind n.cap.base n.cap.bits n.cap.rights n.cap.width n.cap.level n.cap.device):=by
 rw [Zmz]
 refine Za (Z9 l 0) fun _ _=>Za (s25 _) fun r ⟨i,hi,hio⟩=>?_
 subst hi
 refine Za (Z9 l 1) fun _ _=>Za (place _ 3 (by omega) (by omega)) fun rg hrg=>?_
 refine Za (Z9 l 2) fun _ _=>Za (place _ 2 (by omega) (by omega)) fun _ h2=>?_
 refine ZbV h2.1 h2.2 fun w hw=>?_
 rw [s39 n (by omega),Option.bind_some]
 refine Za (Z9 l 3) fun _ _=>Za (place _ 6 (by omega) (by omega)) fun kd hkd=>?_
 refine Za (Z9 l 4) fun _ _=>Za (place _ 8 (by omega) (by omega)) fun v4 h4=>?_
 refine Za (Z9 l 5) fun _ _=>Za (place _ 8 (by omega) (by omega)) fun v5 hde=>?_
 refine Za (Z9 l 6) fun _ _=>Za (place _ 4 (by omega) (by omega)) fun v6 h6=>?_
 refine Za (Z9 l 7) fun _ _=>Za (place _ 8 (by omega) (by omega)) fun v7 h7=>?_
 refine Za (Z9 l 8) fun _ _=>Za (place _ 6 (by omega) (by omega)) fun v8 h8=>?_
 refine Za (Z9 l 9) fun _ _=>Za (place _ 3 (by omega) (by omega)) fun v9 h9=>?_
 refine Za (Z9 l 10) fun _ _=>Za (place _ 2 (by omega) (by omega)) fun v10 h10=>?_
 refine Za (Z9 l 11) fun _ _=>Za (place _ 8 (by omega) (by omega)) fun v11 h11=>Zd (by omega) ?_
 refine Za (Z9 l 12) fun _ _=>Za (place _ 3 (by omega) (by omega)) fun v12 h12=>?_
 refine Za (Zhf l 13) fun v13 h13=>Za (Zhf l 14) fun v14 h14=>?_
 have e8:iop .add .i64 1 v8=1+v8:=Jj (by omega) (by omega)
 have e9:iop .add .i64 12 v9=12+v9:=Jj (by omega) (by omega)
 have e12:iop .add .i64 1 v12=1+v12:=Jj (by omega) (by omega)
 have e11:iop .shl .i64 v11 12=v11*4096:=Znf (by omega) (by omega) (by omega) (by show v11*2^12 < 2^63;omega)
 rw [e8,e9,e11,e12]
 have hcall:RL l→∀ z∈ZfX ⟨1+kd,v4,v5,v6,v7,1+v8,12+v9,v10,v11*4096,1+v12,v13,v14⟩,Rng z:=by
  intro hl z hz
  simp only [ZfX,List.mem_cons,List.not_mem_nil,or_false] at hz
  rcases hz with rfl | rfl | rfl | rfl | rfl | rfl | rfl | rfl | rfl | rfl | rfl | rfl
  ·exact Zba (by omega) (by omega)
  ·exact Zba (by omega) (by omega)
  ·exact Zba (by omega) (by omega)
  ·exact Zba (by omega) (by omega)
  ·exact Zba (by omega) (by omega)
  ·exact Zba (by omega) (by omega)
  ·exact Zba (by omega) (by omega)
  ·exact Zba (by omega) (by omega)
  ·exact Zba (by omega) (by omega)
  ·exact Zba (by omega) (by omega)
  ·exact h13 hl
  ·exact h14 hl
 have ek:iop .add .i64 1 kd=1+kd:=Jj (by omega) (by omega)
 rw [ek]
 have hr:ZcS rg=true:=by simp only [ZcS,decide_eq_true_eq];omega
 refine Zc (fun h1=>Zg ⟨⟨i,⟨_,_,_,_,_,_,_,_,_,_,_,_⟩,_,_,Jo⟩,rfl,⟨by simp [Jo],hde.2⟩,?_,hcall⟩) fun h1=>Zg ⟨⟨i,⟨_,_,_,_,_,_,_,_,_,_,_,_⟩,_,_,n⟩,rfl,⟨hp,hde.2⟩,?_,hcall⟩
 ·simp only [CQ] at h1
  simp only [WG,hio.ok,hr,h1,Zeh,Bool.and_eq_true,decide_eq_true_eq,if_true,true_and,and_true]
  exact ⟨by omega,hw⟩
 ·simp only [CQ] at h1
  simp only [WG,hio.ok,hr,hn,if_neg h1,Bool.and_eq_true,decide_eq_true_eq,true_and,and_true]
  exact ⟨by omega,hw⟩
structure ZfE (f:List ZL) (ss:List Z5):Prop where
 len:ss.length=12
 spot:∀ t (h:t < ss.length),(0≤ss[t].op∧ss[t].op≤20)∧((ss[t].node=Jo∧ss[t].lock=zid)∨∃ e∈f,e.slot=(t:Int)∧ss[t].node=e.node∧(ss[t].lock=zid∨ZfS ss[t].lock=true))
theorem SOk.slIn {f:List ZL} {s:List Z5} (h:SOk f s):ZfE f s:=⟨h.len,fun t ht=>by
 obtain ⟨h1,h2,h3⟩:=h.spot t ht
 refine ⟨by omega,?_⟩
 rcases h3 with h3 | ⟨e,he,hs,hn⟩
 ·exact .inl ⟨h3,h2⟩
 ·exact .inr ⟨e,he,hs,hn,.inl h2⟩⟩
theorem Zl5 {f:List ZL} {n:Nat} (hf:FOk f n) {a b:ZL} (ha:a∈f) (hb:b∈f) (h:a.node.id=b.node.id):a=b:=by
 obtain ⟨i,hi,rfl⟩:=List.getElem_of_mem ha
 obtain ⟨j,hj,rfl⟩:=List.getElem_of_mem hb
 have hp:=List.pairwise_iff_getElem.1 hf.asc
 by_cases hij:i < j
 ·have:=hp i j hi hj hij
  rw [Zdt,h] at this;omega
 ·by_cases hji:j < i
  ·have:=hp j i hj hi hji
   rw [Zdt,h] at this;omega
  ·have:i=j:=by omega
   subst this;rfl
theorem Zfn {f:List ZL} {n:Nat} (hf:FOk f n) {e:ZL} (he:e∈f):e.node.id≠zid:=by
 intro h
 have:=(hf.all e he).o1
 rw [h] at this
 exact absurd this (by decide)
theorem ZiN {f:List ZL} {n:Nat} {ss:List Z5} (hf:FOk f n) (h:ZfE f ss):Zd3 ss=true:=by
 have hl:=h.len
 rw [Zd3,Bool.and_eq_true,decide_eq_true_eq,List.all_eq_true]
 refine ⟨by omega,fun i hi=>?_⟩
 rw [List.mem_range'_1] at hi
 have hil:i < ss.length:=by omega
 obtain ⟨ho,hn⟩:=h.spot i hil
 rw [Bool.and_eq_true,ZaD _ hil]
 refine ⟨?_,?_⟩
 ·rw [ZmA,Bool.and_eq_true,decide_eq_true_eq]
  refine ⟨by omega,?_⟩
  rcases hn with ⟨e1,e2⟩ | ⟨e,he,_,e1,e2⟩
  ·rw [e1,e2,if_pos (show Jo.id=zid from rfl),Zeh];rfl
  ·rw [e1,if_neg (Zfn hf he),(hf.all e he).ok,Bool.true_and,Bool.or_eq_true,decide_eq_true_eq]
   exact e2
 ·unfold ZjL
  rw [List.getElem?_eq_getElem hil]
  show (!((ss.take i).any (ZnI ss[i].node.id)))=true
  rw [Bool.not_eq_true',List.any_eq_false]
  intro x hx
  obtain ⟨j,hj,rfl⟩:=List.getElem_of_mem hx
  rw [List.length_take] at hj
  rw [List.getElem_take]
  have hji:j < i:=by omega
  obtain ⟨_,hm⟩:=h.spot j (by omega)
  rw [ZnI,Bool.not_eq_true,Bool.and_eq_false_iff]
  rcases hm with ⟨e1,_⟩ | ⟨e,he,hs,e1,_⟩
  ·left;rw [e1];rfl
  ·right
   rw [decide_eq_false_iff_not,e1]
   intro heq
   rcases hn with ⟨e3,_⟩ | ⟨e',he',hs',e3,_⟩
   ·rw [e3] at heq;exact Zfn hf he heq
   ·rw [e3] at heq
    have:=Zl5 hf he he' heq
    subst this
    omega
structure StG (f:List ZL) (s:WH):Prop where
 slots:ZfE f s.slots
 ok:W5 s=true
 pend:s.pending.length≤3
 psrc:∀ q∈s.pending,q.src.path.length≤20∧q.call.dest < 8
 pok:∀ q∈s.pending,WG q=true
 marks:s.marks.length≤3
 answers:s.answers.length≤3
 entries:s.entries.length≤3
 epath:∀ e∈s.entries,e.node.path.length≤20
 commits:s.commits.length≤3
abbrev StT:=LL×LL×LL×LL×LL×LL
def stV (s:WH):StT:=(s.slots.map Jb,s.pending.map ZgB,s.marks.map Zij,s.answers.map Zlk,s.entries.map Zk,Zf s.commits)
def StR (f:List ZL) (l:List Int) (r:StT):Prop:=∃ s:WH,r=stV s∧StG f s∧(RL l→ZmF s)
def Zov (z:List Int) (l:List Req):Prop:=(RL z→∀ q∈l,∀ x∈ZfX q.call,Rng x)∧l.length≤3∧(∀ q∈l,q.src.path.length≤20∧q.call.dest < 8)∧(∀ q∈l,WG q=true)∧Zfr ltp l=true
def Zn4 (l:List ZjX):Prop:=l.length≤3∧(∀ q∈l,ZfH q=true)∧Zfr ltm l=true
def Znv (l:List Ans):Prop:=l.length≤3∧(∀ q∈l,Zi6 q=true)∧Zfr lta l=true
def ZmU (l:List ZL):Prop:=l.length≤3∧(∀ e∈l,e.node.path.length≤20)∧(∀ q∈l,ZjC q=true)∧Zfr lte l=true
def ZmX (l:List Id):Prop:=l.length≤3∧∀ q∈l,ZfS q=true
theorem ZiE {l:List Int} {f:List ZL} {n:Nat} (hf:FOk f n) {ss:List Z5} (hs:ZfE f ss) {pe:List Req} (hp:Zov l pe) {ma:List ZjX} (hm:Zn4 ma) {an:List Ans} (ha:Znv an) {en:List ZL} (he:ZmU en) {co:List Id} (hc:ZmX co) :
  StR f l (ss.map Jb,pe.map ZgB,ma.map Zij,an.map Zlk,en.map Zk,Zf co):=by
 refine ⟨⟨ss,pe,ma,an,en,co⟩,rfl,⟨hs,?_,hp.2.1,hp.2.2.1,hp.2.2.2.1,hm.1,ha.1,he.1,he.2.1,hc.1⟩,hp.1⟩
 simp only [W5,ZiN hf hs,List.all_eq_true.2 hp.2.2.2.1,hp.2.2.2.2,List.all_eq_true.2 hm.2.1,hm.2.2,List.all_eq_true.2 ha.2.1,ha.2.2,List.all_eq_true.2 he.2.2.1,he.2.2.2,List.all_eq_true.2 hc.2,Bool.and_self]
theorem ZmZ {e:ZL} (h:EOk e):ZjC e=true:=by
 obtain ⟨h1,h2,h3,h4,_,_,_,_,_,h5⟩:=h
 simp only [ZjC,Wr,Zj1,h5,Bool.and_eq_true,decide_eq_true_eq,and_true]
 omega
theorem Zoa (l:List Int) (f:List ZL) (n:Nat) (hf:FOk f n) (hn:n≤60) (y2 y3 y4 y5 y6 y7 sl pe ma an:LL) (h:∀ en co,ZmU en→ZmX co→StR f l (sl,pe,ma,an,en.map Zk,Zf co)) :
  Ret (StR f l) (Zln Z6 (Zb l) (f.map Zk) y2 y3 y4 y5 y6 y7 sl pe ma an E0 E0 0):=by
 have hfl:=hf.len
 refine Yw (F:=fun k (s:LL×LL) z=>Zln k (Zb l) (f.map Zk) y2 y3 y4 y5 y6 y7 sl pe ma an s.1 s.2 z) 3
  (fun i s=>∃ cs,s=(List.map Zk (f.take i),Zf cs)∧i≤f.length∧cs.length≤i∧∀ c∈cs,ZfS c=true) (by omega) (fun k i s hi hj ih=>?_) (E0,E0) ⟨[],by simp [Zf],by omega,by simp,by simp⟩
 obtain ⟨cs,rfl,h1,h2,h3⟩:=hj
 have out:Ret (StR f l) (some (sl,pe,ma,an,List.map Zk (f.take i),Zf cs)):=Zg (h _ _ ⟨by simp;omega,fun e he=>by have:=(JN (hf.all e (List.mem_of_mem_take he)).ok).2.2.1;omega,fun e he=>ZmZ (hf.all e (List.mem_of_mem_take he)),Zjd hf.asc.take⟩ ⟨by omega,h3⟩)
 show Ret _ (Zln (k+1) _ _ _ _ _ _ _ _ _ _ _ _ _ _ _)
 rw [Zk7]
 refine Za (Z9 l _) fun _ _=>Za (place _ 3 (by omega) (by omega)) fun r16 h16=>?_
 refine Zc (fun h4=>?_) fun _=>out
 refine Zc (fun h5=>?_) fun _=>out
 simp only [CQ,List.length_map] at h4 h5
 have hif:i < f.length:=by omega
 refine Zd (ZS (by simp;omega) (by omega)) ?_
 refine Z3 (Zt hif _) ?_
 simp only [Ya,d2,d4,d8,d16]
 refine Zd (ZS (by simp;omega) (by omega)) (Zd (ZS (by rw [Jz];simp;omega) (by omega)) ?_)
 refine Za (Z9 l _) fun _ _=>Za (s25 _) fun r ⟨c,hc,hco⟩=>?_
 subst hc
 refine Zd (ZS (by rw [Jz];simp;omega) (by omega)) ?_
 rw [Zee hi (by omega)]
 refine ih (by omega) (List.map Zk (f.take i)++(E0++[Zk f[i]]),Zf cs++(E0++[idc c])) ⟨cs++[c],?_,by omega,by simp;omega,KV h3 hco.ok⟩
 have e1:f.take (i+1)=f.take i++[f[i]]:=by rw [List.take_add_one,List.getElem?_eq_getElem hif];rfl
 rw [e1,WO]
 simp [Zf]
theorem Zoc (l:List Int) (f:List ZL) (n:Nat) (hf:FOk f n) (hn:n≤60) (y2 y3 y4 y5 y6 y7 sl pe ma:LL) (h:∀ an en co,Znv an→ZmU en→ZmX co→StR f l (sl,pe,ma,an.map Zlk,en.map Zk,Zf co)) :
  Ret (StR f l) (Zlj Z6 (Zb l) (f.map Zk) y2 y3 y4 y5 y6 y7 sl pe ma E0 E0 E0 0):=by
 refine Yw (F:=fun k (s:LL) z=>Zlj k (Zb l) (f.map Zk) y2 y3 y4 y5 y6 y7 sl pe ma s E0 E0 z) 3
  (fun i s=>∃ es:List Ans,s=List.map Zlk es∧es.length=i∧(∀ j (h:j < es.length),es[j].op=((j+1:Nat):Int))∧∀ x∈es,Zi6 x=true) (by omega) (fun k i s hi hj ih=>?_) _ ⟨[],rfl,by simp,by simp,by simp⟩
 obtain ⟨es,rfl,h1,h2,h3⟩:=hj
 show Ret _ (Zlj (k+1) _ _ _ _ _ _ _ _ _ _ _ _ _ _ _)
 rw [ZkX]
 refine Za (Z9 l _) fun _ _=>Za (place _ 3 (by omega) (by omega)) fun r16 h16=>?_
 refine Zc (fun h4=>?_) fun _=>Zoa l f n hf hn _ _ _ _ _ _ _ _ _ _ fun en co he hc=>h es en co ⟨by omega,h3,(Zcs ..).2 fun j hj=>by rw [lta,h2,h2,decide_eq_true_eq];omega⟩ he hc
 simp only [CQ] at h4
 refine Zd (ZS (by simp;omega) (by omega)) ?_
 refine Za (Z9 l _) fun _ _=>Za (place _ 20 (by omega) (by omega)) fun v hv=>?_
 refine Zd (ZS (by simp;omega) (by omega)) ?_
 rw [Zee hi (by omega)]
 refine ih (by omega) _ ⟨es++[⟨((i+1:Nat):Int),v⟩],by rw [← WO];rfl,by simp;omega,fun j hj=>?_,KV h3 (by simp only [Zi6,Zmy,Bool.and_eq_true,decide_eq_true_eq];omega)⟩
 by_cases hjl:j < es.length
 ·rw [List.getElem_append_left hjl];exact h2 j hjl
 ·rw [List.getElem_append_right (by omega)]
  rw [List.length_append,List.length_cons,List.length_nil] at hj
  have:j=i:=by omega
  subst this
  simp
theorem Zn2 (l:List Int) (f:List ZL) (n:Nat) (hf:FOk f n) (hn:n≤60) (y2 y3 y4 y5 y6 y7 sl pe:LL) (h:∀ ma an en co,Zn4 ma→Znv an→ZmU en→ZmX co→StR f l (sl,pe,ma.map Zij,an.map Zlk,en.map Zk,Zf co)) :
  Ret (StR f l) (Zld Z6 (Zb l) (f.map Zk) y2 y3 y4 y5 y6 y7 sl pe E0 E0 E0 E0 0):=by
 refine Yw (F:=fun k (s:LL) z=>Zld k (Zb l) (f.map Zk) y2 y3 y4 y5 y6 y7 sl pe s E0 E0 E0 z) 3
  (fun i s=>∃ es:List ZjX,s=List.map Zij es∧es.length=i∧(∀ j (h:j < es.length),es[j].region=(j:Int))∧∀ x∈es,ZfH x=true) (by omega) (fun k i s hi hj ih=>?_) _ ⟨[],rfl,by simp,by simp,by simp⟩
 obtain ⟨es,rfl,h1,h2,h3⟩:=hj
 show Ret _ (Zld (k+1) _ _ _ _ _ _ _ _ _ _ _ _ _ _ _)
 rw [Zk4]
 refine Za (Z9 l _) fun _ _=>Za (place _ 3 (by omega) (by omega)) fun r16 h16=>?_
 refine Zc (fun h4=>?_) fun _=>Zoc l f n hf hn _ _ _ _ _ _ _ _ _ fun an en co ha he hc=>h es an en co ⟨by omega,h3,(Zcs ..).2 fun j hj=>by rw [ltm,h2,h2,decide_eq_true_eq];omega⟩ ha he hc
 simp only [CQ] at h4
 refine Zd (ZS (by simp;omega) (by omega)) ?_
 refine Za (Z9 l _) fun _ _=>Za (s25 _) fun r ⟨c,hc,hco⟩=>?_
 subst hc
 refine Zd (ZS (by simp;omega) (by omega)) ?_
 rw [Zee hi (by omega)]
 refine ih (by omega) _ ⟨es++[⟨(i:Int),c⟩],by rw [← WO];rfl,by simp;omega,fun j hj=>?_,KV h3 (by simp only [ZfH,ZcS,hco.ok,Bool.and_eq_true,decide_eq_true_eq,and_true];omega)⟩
 by_cases hjl:j < es.length
 ·rw [List.getElem_append_left hjl];exact h2 j hjl
 ·rw [List.getElem_append_right (by omega)]
  rw [List.length_append,List.length_cons,List.length_nil] at hj
  have:j=i:=by omega
  subst this
  simp
theorem Zol (l:List Int) (f:List ZL) (n:Nat) (hf:FOk f n) (hn:n≤60) (y2 y3 y4 y5 y6 y7 sl:LL) (h:∀ pe ma an en co,Zov l pe→Zn4 ma→Znv an→ZmU en→ZmX co→StR f l (sl,pe.map ZgB,ma.map Zij,an.map Zlk,en.map Zk,Zf co)) :
  Ret (StR f l) (ZjB Z6 (Zb l) (f.map Zk) y2 y3 y4 y5 y6 y7 sl E0 E0 E0 E0 E0 0):=by
 have hfl:=hf.len
 refine Yw (F:=fun k (s:LL) z=>ZjB k (Zb l) (f.map Zk) y2 y3 y4 y5 y6 y7 sl s E0 E0 E0 E0 z) 3
  (fun i s=>∃ es,s=List.map ZgB es∧es.length≤i∧(∀ q∈es,q.src.path.length≤20∧q.call.dest < 8)∧(∀ q∈es,WG q=true)∧Zfr ltp es=true∧(RL l→∀ q∈es,∀ x∈ZfX q.call,Rng x)) (by omega) (fun k i s hi hj ih=>?_) _ ⟨[],rfl,by simp,by simp,by simp,rfl,by simp⟩
 obtain ⟨es,rfl,h1,h3,h7,h8,h9⟩:=hj
 have out:=Zn2 l f n hf hn y2 y3 y4 y5 y6 y7 sl (List.map ZgB es) fun ma an en co hm ha he hc=>h es ma an en co ⟨h9,by omega,h3,h7,h8⟩ hm ha he hc
 show Ret _ (ZjB (k+1) _ _ _ _ _ _ _ _ _ _ _ _ _ _ _)
 rw [ZkK]
 refine Za (Z9 l _) fun _ _=>Za (place _ 3 (by omega) (by omega)) fun r16 h16=>?_
 refine Zc (fun h4=>?_) fun _=>out
 refine Zc (fun h5=>?_) fun _=>out
 simp only [CQ,List.length_map] at h4 h5
 have e13:iop .add .i64 13 (i:Int)=13+i:=Jj (by omega) (by omega)
 rw [e13]
 refine Za (s27 l _ (by omega)) fun r ⟨m,hr,_,hsub⟩=>?_
 subst hr
 rw [List.length_map]
 refine Za (Z9 l _) fun _ _=>Za (place _ _ (by omega) (by omega)) fun r19 h19=>?_
 have hil:r19.toNat < f.length:=by omega
 refine Kx h19.1 hil ?_
 simp only [Ya,d2,d4,d8,d16]
 have hno:=(hf.all _ (List.getElem_mem hil)).ok
 have hp:=(JN hno).2.2.1
 refine Za (s26 m f[r19.toNat].node hno (by omega)) fun r ⟨q,hq,hqp,hqo,hqc⟩=>?_
 subst hq
 rw [Zee hi (by omega)]
 have room1:Jr E0 (List.map ZgB es) 240:=ZS (by simp;omega) (by omega)
 have room2:Jr (List.map ZgB es) (E0++[ZgB q]) 240:=ZS (by simp;omega) (by omega)
 have nxt:i < 3→(∀ h:0 < es.length,ltp (es[es.length-1]'(by omega)) q=true)→Ret (StR f l) (ZjB k (Zb l) (f.map Zk) y2 y3 y4 y5 y6 y7 sl (List.map ZgB es++(E0++[ZgB q])) E0 E0 E0 E0 ((i+1:Nat):Int)):=fun hi3 hlt=>ih hi3 _ ⟨es++[q],(WO ..),by simp;omega,KV h3 hqp,KV h7 hqo,Ziy h8 hlt,fun hl=>KV (h9 hl) (hqc (hsub hl))⟩
 refine Zc (fun h6=>Zd room1 (Zd room2 (nxt (by omega) fun h=>?_))) fun h6=>?_
 ·simp only [CQ,List.length_map] at h6
  omega
 simp only [CQ,List.length_map] at h6
 have e1:iop .sub .i64 (List.length (List.map ZgB es):Int) 1=((es.length-1:Nat):Int):=by rw [List.length_map,Zc6 (by omega) (by omega)];omega
 rw [e1]
 refine Z3 (ZgW (show es.length-1 < es.length by omega) _) ?_
 refine Z3 (congrArg (fun o=>Option.bind o _) (s28 _ _ _ _ _ _)) ?_
 refine Zc (fun hlt=>Zd room1 (Zd room2 (nxt (by omega) fun _=>hlt))) fun _=>ih (by omega) _ ⟨es,rfl,by omega,h3,h7,h8,h9⟩
def Zew (b:Id) (s:Z5):Z5:={ s with lock:=b }
theorem Zh0 (acc:List Z5) (i:Nat) (b:Id):Zy (acc.map Jb) i 12 [I b.core,I b.op,I b.part]=(acc.modify i (Zew b)).map Jb:=VU Jb (Zew b) acc i 12 _ fun _ _=>rfl
theorem ZfE.lockS {f:List ZL} {ss:List Z5} (h:ZfE f ss) (i:Nat) (hi:i < ss.length) (b:Id) (hb:ZfS b=true) (he:JB ss[i]=false):ZfE f (ss.modify i (Zew b)):=by
 refine ⟨by rw [List.length_modify];exact h.len,fun t ht=>?_⟩
 rw [List.length_modify] at ht
 rw [List.getElem_modify]
 obtain ⟨ho,hn⟩:=h.spot t ht
 split
 ·rename_i heq
  subst heq
  refine ⟨ho,?_⟩
  rcases hn with ⟨e1,_⟩ | ⟨e,he',hs,e1,_⟩
  ·rw [JB,e1] at he
   exact absurd he (by decide)
  ·exact .inr ⟨e,he',hs,e1,.inr hb⟩
 ·exact ⟨ho,hn⟩
theorem ZfE.opS {f:List ZL} {ss:List Z5} (h:ZfE f ss) (i:Nat) (g:Z5→Z5) (hg:∀ x,(g x).node=x.node∧(g x).lock=x.lock∧0≤(g x).op∧(g x).op≤20):ZfE f (ss.modify i g):=by
 refine ⟨by rw [List.length_modify];exact h.len,fun t ht=>?_⟩
 rw [List.length_modify] at ht
 rw [List.getElem_modify]
 obtain ⟨ho,hn⟩:=h.spot t ht
 split
 ·rw [(hg _).1,(hg _).2.1]
  exact ⟨(hg _).2.2,hn⟩
 ·exact ⟨ho,hn⟩
theorem ZnL (l:List Int) (f:List ZL) (n:Nat) (hf:FOk f n) (hn:n≤60) (y2 y3 y4 y5 y6 y7:LL) (ss:List Z5) (hss:ZfE f ss) :
  Ret (StR f l) (Zf2 Z6 (Zb l) (f.map Zk) y2 y3 y4 y5 y6 y7 (ss.map Jb) E0 E0 E0 E0 E0 0):=by
 refine Yw (F:=fun k (s:LL) z=>Zf2 k (Zb l) (f.map Zk) y2 y3 y4 y5 y6 y7 s E0 E0 E0 E0 E0 z) 12
  (fun i s=>∃ es,s=List.map Jb es∧ZfE f es) (by omega) (fun k i s hi hj ih=>?_) _ ⟨ss,rfl,hss⟩
 obtain ⟨es,rfl,h1⟩:=hj
 have hl:=h1.len
 show Ret _ (Zf2 (k+1) _ _ _ _ _ _ _ _ _ _ _ _ _ _ _)
 rw [ZkZ,List.length_map]
 refine Zc (fun h4=>?_) fun _=>Zol l f n hf hn _ _ _ _ _ _ _ fun pe ma an en co hp hm ha he hc=>ZiE hf h1 hp hm ha he hc
 simp only [CQ] at h4
 have hi12:i < 12:=by omega
 have hie:i < es.length:=by omega
 rw [Zee hi (by omega)]
 have h0:(0:Int)≤(i:Int):=by omega
 have hlt:(i:Int) < (es.length:Int):=by omega
 -- what becomes of the reservation
 have part2:∀ es':List Z5,ZfE f es'→Ret (StR f l) ((g23 (Zb l) (i:Int)).bind fun (r17:Int)=>(g6 r17 7).bind fun (r18:Int)=>if (cop .eql r18 6)=true then (g23 (Zb l) (i:Int)).bind fun (r19:Int)=>Zj ((7:Int)≠0)<|(g6 (iop .quo .i64 r19 7) 20).bind fun (r20:Int)=>Zj ((0:Int)≤(i:Int))<|Zj ((i:Int) < (List.length (es'.map Jb):Int))<|Zj ((0:Int)≤(i:Int))<|Zj ((i:Int) < (List.length (es'.map Jb):Int))<|
   Zf2 k (Zb l) (f.map Zk) y2 y3 y4 y5 y6 y7 (Zy (es'.map Jb) (Int.toNat (i:Int)) 11 [AV.val (.int .i64 (iop .add .i64 1 r20))]) E0 E0 E0 E0 E0 ((i+1:Nat):Int)
   else Zf2 k (Zb l) (f.map Zk) y2 y3 y4 y5 y6 y7 (es'.map Jb) E0 E0 E0 E0 E0 ((i+1:Nat):Int)):=by
  intro es' he'
  have hl':=he'.len
  refine Za (Z9 l _) fun _ _=>Za (place _ 7 (by omega) (by omega)) fun r18 _=>?_
  refine Zc (fun _=>?_) fun _=>ih hi12 _ ⟨es',rfl,he'⟩
  refine Za (Z9 l _) fun _ _=>Zd (by omega) (Za (place _ 20 (by omega) (by omega)) fun r20 h20=>?_)
  rw [List.length_map]
  refine Zd h0 (Zd (by omega) (Zd h0 (Zd (by omega) ?_)))
  have e20:iop .add .i64 1 r20=1+r20:=Jj (by omega) (by omega)
  rw [Int.toNat_natCast,e20,ZlM]
  exact ih hi12 _ ⟨_,rfl,he'.opS _ _ fun x=>⟨rfl,rfl,by show 0≤1+r20;omega,by show 1+r20≤20;omega⟩⟩
 refine Za (Z9 l _) fun _ _=>Za (place _ 5 (by omega) (by omega)) fun r16 _=>?_
 refine Zc (fun _=>?_) fun _=>?_
 ·refine Zd h0 (Zd hlt ?_)
  refine Z3 (Ym hie _) ?_
  simp only [ZhG,d2,d4,d8,d16]
  rw [s24,Option.bind_some]
  refine Zc (fun hne=>?_) fun _=>?_
  ·rw [Bool.not_eq_true'] at hne
   refine Za (Z9 l _) fun _ _=>Zd (by omega) (Za (s25 _) fun r ⟨b,hb,hbo⟩=>?_)
   subst hb
   refine Zd h0 (Zd hlt (Zd h0 (Zd hlt ?_)))
   have:=part2 (es.modify i (Zew b)) (h1.lockS i hie b hbo.ok hne)
   rw [← Zh0,← Int.toNat_natCast i] at this
   exact this
  ·have:=part2 es h1
   rw [List.length_map] at this
   exact this
 ·have:=part2 es h1
  rw [List.length_map] at this
  exact this
theorem s7 (l:List Int) (f:List ZL) (n:Nat) (hf:FOk f n) (hn:n≤60) (c:Int):Ret (StR f l) (g7 (Zb l) (f.map Zk) c):=by
 rw [Zom]
 refine Za (s20 f n hn hf c) fun r ⟨s,hs,hr⟩=>?_
 subst hr
 exact ZnL l f n hf hn _ _ _ _ _ _ s hs.slIn
theorem StG.few {f:List ZL} {n:Nat} (hf:FOk f n) {s:WH} (h:StG f s):Zhi s.slots:=by
 refine ⟨by have:=h.slots.len;omega,fun x hx=>?_⟩
 obtain ⟨t,ht,rfl⟩:=List.getElem_of_mem hx
 rcases (h.slots.spot t ht).2 with ⟨e,_⟩ | ⟨e,he,_,e1,_⟩
 ·rw [e];simp [Jo]
 ·rw [e1]
  have:=(JN (hf.all e he).ok).2.2.1
  omega
end Go.Proofs.Ytmjkdbpffdampaa
end

section
namespace Go.Proofs.Ytmjkdbpffdampaa
open Go Go.AM
set_option linter.unusedSimpArgs false
set_option linter.unusedVariables false
set_option maxRecDepth 100000
structure VwG (v:Zk8):Prop where
 ok:ZgJ v=true
 members:v.members.length≤4
 owners:v.owners.length≤4
structure StS (s:WH):Prop where
 ok:W5 s=true
 slots:s.slots.length≤12
 spath:∀ x∈s.slots,x.node.path.length≤20
 pend:s.pending.length≤3
 psrc:∀ q∈s.pending,q.src.path.length≤20
 marks:s.marks.length≤3
 answers:s.answers.length≤3
 entries:s.entries.length≤3
 epath:∀ e∈s.entries,e.node.path.length≤20
 commits:s.commits.length≤3
structure RpS (r:ZbG):Prop where
 core:Wr r.core=true
 view:VwG r.view
 state:StS r.state
 next:VwG r.next
 proposal:StS r.proposal
theorem RpS.ok {r:ZbG} (h:RpS r):Zmc r=true:=by simp only [Zmc,h.core,h.view.ok,h.state.ok,h.next.ok,h.proposal.ok,Bool.and_self]
end Go.Proofs.Ytmjkdbpffdampaa
end

section
namespace Go.Proofs.Ytmjkdbpffdampaa
open Go Go.AM
set_option linter.unusedSimpArgs false
set_option linter.unusedVariables false
set_option maxRecDepth 100000
theorem l59 {b r w l k s:Int} {d:Bool} {lv wd bits sz off obj cnt:Int} (hb:0≤b) (hoff:0≤off) (hsz:0≤sz) (hc:cnt≤8) (hm:b+off+8*sz < 2^62):∀ (j i fuel:Nat),cnt=i+j→j < fuel→
  JP fuel obj bits lv wd off k b s r w l d sz (Jv obj (b+off) sz bits r wd lv d i) cnt i=some (Jv obj (b+off) sz bits r wd lv d cnt.toNat,0):=by
 intro j
 have e62:(2:Int)^62=4611686018427387904:=by decide
 induction j with
 | zero =>
  intro i fuel h hf
  obtain ⟨f,rfl⟩:∃ f,fuel=f+1:=⟨fuel-1,by omega⟩
  rw [ZeV,if_neg (by simp only [ZG,ZM,ZA,ZJ,ZD,ZI,ZB,ZC,ZF,ZE,ZK,ZH,Bool.not_eq_true,Bool.not_eq_false,Bool.not_eq_true',Bool.not_eq_false',Bool.and_eq_true,Bool.or_eq_true,decide_eq_true_eq,decide_eq_false_iff_not,Bool.false_eq_true,Bool.true_eq_false,Option.bind_some,Option.some.injEq,false_iff,true_iff,iff_false,iff_true];omega)]
  have:cnt.toNat=i:=by omega
  rw [this]
 | succ j ih =>
  intro i fuel h hf
  obtain ⟨f,rfl⟩:∃ f,fuel=f+1:=⟨fuel-1,by omega⟩
  have hsi:(i:Int)*sz≤8*sz:=Int.mul_le_mul_of_nonneg_right (by omega) hsz
  have hsi0:0≤(i:Int)*sz:=Int.mul_nonneg (by omega) hsz
  have a1:iop .add .i64 b off=b+off:=Jj (by omega) (by omega)
  have a2:iop .mul .i64 i sz=i*sz:=Zkp (by omega) (by omega)
  have a3:iop .add .i64 (b+off) (i*sz)=b+off+i*sz:=Jj (by omega) (by omega)
  have a4:iop .add .i64 i 1=((i+1:Nat):Int):=by rw [Jj (by omega) (by omega)];omega
  rw [ZeV,if_pos (by simp only [ZG,ZM,ZA,ZJ,ZD,ZI,ZB,ZC,ZF,ZE,ZK,ZH,Bool.not_eq_true,Bool.not_eq_false,Bool.not_eq_true',Bool.not_eq_false',Bool.and_eq_true,Bool.or_eq_true,decide_eq_true_eq,decide_eq_false_iff_not,Bool.false_eq_true,Bool.true_eq_false,Option.bind_some,Option.some.injEq,false_iff,true_iff,iff_false,iff_true];omega),ZO (Ka (by rw [Kq];simp;omega)),a1,a2,a3,a4]
  have:=ih (i+1) f (by omega) (by omega)
  rw [VV] at this
  exact this
set_option maxHeartbeats 4000000 in
theorem s59 (k b s r w l:Int) (d:Bool) (obj bits level width off cnt:Int):g59 k b s r w l d obj bits level width off cnt =
  some (YB ⟨k,b,s,r,w,l,d⟩ obj bits level width off cnt,Yt ⟨k,b,s,r,w,l,d⟩ obj bits level width off cnt):=by
 rw [Zlw]
 simp only [s79,s80,s81,Option.bind_some]
 by_cases hh:Kk ⟨k,b,s,r,w,l,d⟩=true∧k=1∧iop .and .i64 r 2≠0∧Ki obj bits=true∧(obj=3→Wz width level=true)∧1≤cnt∧cnt≤8∧0≤off
 ·obtain ⟨h1,rfl,h3,h4,h5,h6,h7,h8⟩:=hh
  obtain ⟨n1,n2,n3,n4,n5,n6,n7,n8,n9,n10,n11,n12,n13,n14,n15,n16⟩:=Zfa h1 h4 h6 h7 h8
  have q1:(Zj ((0:Int)≤bits):Option (List (List AV)×Int)→_)=fun x=>x:=Wc n7
  have q2:(Zj ((2:Int)^bits.toNat≠0):Option (List (List AV)×Int)→_)=fun x=>x:=Wc n6
  have q3:(Zj ((0:Int)≤s):Option (List (List AV)×Int)→_)=fun x=>x:=Wc n8
  simp only at n3 n5
  have loop:∀ lv wd,off+cnt*2^bits.toNat≤2^s.toNat→JP Z6 obj bits lv wd off 1 b s r w l d (2^bits.toNat) [] cnt 0=some (Jv obj (b+off) (2^bits.toNat) bits r wd lv d cnt.toNat,0):=by
   intro lv wd hle
   have:=l59 (k:=1) (s:=s) (r:=r) (w:=w) (l:=l) (d:=d) (lv:=lv) (wd:=wd) (bits:=bits) (obj:=obj) (cnt:=cnt) n9 h8 (Int.le_of_lt n11) h7 (show b+off+8*2^bits.toNat < 2^62 by
    have e62:(2:Int)^62=4611686018427387904:=by decide
    simp only at n10
    omega) cnt.toNat 0 Z6 (by omega) (ZaK (by omega))
   exact this
  have hR:Yt ⟨1,b,s,r,w,l,d⟩ obj bits level width off cnt=if d=true∧obj≠1∧obj≠2 then 5 else if off % 2^bits.toNat≠0∨2^s.toNat-cnt*2^bits.toNat < off∨(obj=1∧s≤bits) then 6 else 0:=by
   rw [Yt,if_neg (by simp [h1]),if_neg h3,if_neg (by
    rintro (h | ⟨h,h'⟩ | h | h | h)
    ·rw [h4] at h;cases h
    ·rw [h5 h] at h';cases h'
    ·omega
    ·omega
    ·omega)]
  have hk1:cop .neq (1:Int) 1=false:=rfl
  simp only [n1,n2,n3,n4,n5,q1,q2,q3,h1,h4,hk1,Bool.not_true,Bool.false_eq_true,if_false]
  clear n1 n2 n3 n4 n5 q1 q2 q3
  by_cases e5:d=true∧obj≠1∧obj≠2
  ·rw [if_pos e5] at hR
   obtain ⟨hd,e1,e2⟩:=e5
   repeat' (with_reducible refine Zz (fun _=>?_) (fun _=>?_))
   all_goals first
    | exact V9 (by decide) hR
    | (exfalso; simp only [ZG, ZM, ZA, ZJ, ZD, ZI, ZB, ZC, ZF, ZE, ZK, ZH, Bool.not_eq_true, Bool.not_eq_false, Bool.not_eq_true', Bool.not_eq_false', Bool.and_eq_true, Bool.or_eq_true, decide_eq_true_eq, decide_eq_false_iff_not, Bool.false_eq_true, Bool.true_eq_false, Option.bind_some, Option.some.injEq, false_iff, true_iff, iff_false, iff_true] at *; first | omega | grind)
  ·rw [if_neg e5] at hR
   by_cases e6:off % 2^bits.toNat≠0∨2^s.toNat-cnt*2^bits.toNat < off∨(obj=1∧s≤bits)
   ·rw [if_pos e6] at hR
    repeat' (with_reducible refine Zz (fun _=>?_) (fun _=>?_))
    all_goals first
     | exact V9 (by decide) hR
     | (exfalso; simp only [ZG, ZM, ZA, ZJ, ZD, ZI, ZB, ZC, ZF, ZE, ZK, ZH, Bool.not_eq_true, Bool.not_eq_false, Bool.not_eq_true', Bool.not_eq_false', Bool.and_eq_true, Bool.or_eq_true, decide_eq_true_eq, decide_eq_false_iff_not, Bool.false_eq_true, Bool.true_eq_false, Option.bind_some, Option.some.injEq, false_iff, true_iff, iff_false, iff_true] at *; first | omega | grind)
   ·rw [if_neg e6] at hR
    have hL:∀ lv wd,JP Z6 obj bits lv wd off 1 b s r w l d (2^bits.toNat) [] cnt 0=some (Jv obj (b+off) (2^bits.toNat) bits r wd lv d cnt.toNat,0):=fun lv wd=>loop lv wd (by omega)
    simp only [hL,YB,hR,if_true]
    repeat' (with_reducible refine Zz (fun _=>?_) (fun _=>?_))
    all_goals first
     | (simp only [ZG, ZM, ZA, ZJ, ZD, ZI, ZB, ZC, ZF, ZE, ZK, ZH, Bool.not_eq_true, Bool.not_eq_false, Bool.not_eq_true', Bool.not_eq_false', Bool.and_eq_true, Bool.or_eq_true, decide_eq_true_eq, decide_eq_false_iff_not, Bool.false_eq_true, Bool.true_eq_false, Option.bind_some, Option.some.injEq, false_iff, true_iff, iff_false, iff_true] at *; rw [if_pos (by omega), if_pos (by omega)]; done)
     | (simp only [ZG, ZM, ZA, ZJ, ZD, ZI, ZB, ZC, ZF, ZE, ZK, ZH, Bool.not_eq_true, Bool.not_eq_false, Bool.not_eq_true', Bool.not_eq_false', Bool.and_eq_true, Bool.or_eq_true, decide_eq_true_eq, decide_eq_false_iff_not, Bool.false_eq_true, Bool.true_eq_false, Option.bind_some, Option.some.injEq, false_iff, true_iff, iff_false, iff_true] at *; rw [if_neg (by omega), if_neg (by omega)]; done)
     | (exfalso; simp only [ZG, ZM, ZA, ZJ, ZD, ZI, ZB, ZC, ZF, ZE, ZK, ZH, Bool.not_eq_true, Bool.not_eq_false, Bool.not_eq_true', Bool.not_eq_false', Bool.and_eq_true, Bool.or_eq_true, decide_eq_true_eq, decide_eq_false_iff_not, Bool.false_eq_true, Bool.true_eq_false, Option.bind_some, Option.some.injEq, false_iff, true_iff, iff_false, iff_true] at *; first | omega | grind)
 ·repeat' (with_reducible refine Zz (fun _=>?_) (fun _=>?_))
  all_goals first
   | exact V9 (by decide) (by simp only [ZG, ZM, ZA, ZJ, ZD, ZI, ZB, ZC, ZF, ZE, ZK, ZH, Bool.not_eq_true, Bool.not_eq_false, Bool.not_eq_true', Bool.not_eq_false', Bool.and_eq_true, Bool.or_eq_true, decide_eq_true_eq, decide_eq_false_iff_not, Bool.false_eq_true, Bool.true_eq_false, Option.bind_some, Option.some.injEq, false_iff, true_iff, iff_false, iff_true] at *; simp only [Yt]; grind)
   | (exfalso; simp only [ZG, ZM, ZA, ZJ, ZD, ZI, ZB, ZC, ZF, ZE, ZK, ZH, Bool.not_eq_true, Bool.not_eq_false, Bool.not_eq_true', Bool.not_eq_false', Bool.and_eq_true, Bool.or_eq_true, decide_eq_true_eq, decide_eq_false_iff_not, Bool.false_eq_true, Bool.true_eq_false, Option.bind_some, Option.some.injEq, false_iff, true_iff, iff_false, iff_true] at *; grind)
end Go.Proofs.Ytmjkdbpffdampaa
end

section
namespace Go.Proofs.Ytmjkdbpffdampaa
open Go Go.AM
set_option linter.unusedSimpArgs false
set_option linter.unusedVariables false
set_option maxRecDepth 100000
structure Reg where
 base:Int
 bits:Int
 dev:Bool
def Za4 (r:Reg):List AV:=[I r.base,I r.bits,B r.dev]
theorem ZaW {γ:Type} {l:List Reg} {i:Nat} (h:i < l.length) (k:(Int×Int×Bool)→Option γ):Zq (l.map Za4) (i:Int) [.int .i64,.int .i64,.bool] k=k (l[i].base,l[i].bits,l[i].dev):=
 Kb (f:=Za4) (sh:=[.int .i64,.int .i64,.bool]) (v:=fun r=>(r.base,r.bits,r.dev)) (fun _=>rfl) h k
theorem s68 (a b:Int):g68 a b=some (K9 a b):=by
 rw [ZlG]
 simp only [s56,Option.bind_some]
 cases h:Yl a b with
 | false => simp [K9, h]
 | true =>
  obtain ⟨h1,h2,h3,h4,h5⟩:=WI h
  simp only [Bool.not_true,Bool.false_eq_true,if_false]
  rw [ZO (by omega),Zhd h]
theorem s46 (a b c d:Int):g46 a b c d=some (inB a b c d):=by
 rw [Znb]
 simp only [s56,s68,Option.bind_some]
 repeat' split
 all_goals (refine congrArg some ?_;rw [ZV];simp only [inB,CQ] at *; grind)
def ZdI (b n:Int) (r:Reg):Bool:=inB r.base r.bits b n
def YL (rs:List Reg) (b n:Int):Int:=ZbT rs.length (K2 (ZdI b n) rs)
theorem s45 (a b:Int) (d:Bool):g45 a b d=some (a,b):=Zls ..
theorem s19 (rs:List Reg) (hn:rs.length < 2^63) (b n:Int):g19 (rs.map Za4) b n=some (YL rs b n):=by
 rw [Zno]
 exact V1 (F:=fun k z=>Zgu k (rs.map Za4) b n z) (n:=rs.length) (fun m=>ZbT rs.length m) (atP (ZdI b n) rs) hn
  (fun k i hi=>by
   show Zgu (k+1) _ _ _ _=_
   rw [Zfc,List.length_map,if_pos (K1 hi)]
   refine (ZaW hi _).trans ?_
   rw [s45,Option.bind_some,s44,Option.bind_some,Kw hi hn,Kg _ hi,Zb8 hi]
   rfl)
  (fun k=>by show Zgu (k+1) _ _ _ _=_;rw [Zfc,List.length_map,if_neg (KZ (Nat.le_refl _)),ZbT,if_neg (Nat.lt_irrefl _)])
  (K2 (ZdI b n) rs) (VR _ _) (fun j hj=>by have:=VR (ZdI b n) rs;rw [Kg _ (by omega)];exact Wp _ _ j (by omega) hj) (fun h=>by rw [Kg _ h];exact Zbg _ _ h)
theorem s22 (rs:List Reg) (hn:rs.length < 2^63) (b n:Int):g22 (rs.map Za4) b n=some (if 0≤YL rs b n then (YL rs b n,true) else (0,false)):=by
 rw [Zmw,List.length_map]
 refine (V1 (F:=fun k z=>Zgd k b n (rs.map Za4) (rs.length:Int) z) (n:=rs.length) (fun m=>if m < rs.length then ((m:Int),true) else (0,false)) (atP (ZdI b n) rs) hn
  (fun k i hi=>by
   show Zgd (k+1) _ _ _ _ _=_
   rw [Zfm,if_pos (K1 hi)]
   refine (ZaW hi _).trans ?_
   rw [s46,Option.bind_some,Kw hi hn,Kg _ hi,if_pos hi]
   rfl)
  (fun k=>by show Zgd (k+1) _ _ _ _ _=_;rw [Zfm,if_neg (KZ (Nat.le_refl _)),if_neg (Nat.lt_irrefl _)])
  (K2 (ZdI b n) rs) (VR _ _) (fun j hj=>by have:=VR (ZdI b n) rs;rw [Kg _ (by omega)];exact Wp _ _ j (by omega) hj) (fun h=>by rw [Kg _ h];exact Zbg _ _ h)).trans ?_
 unfold YL ZbT
 by_cases h:K2 (ZdI b n) rs < rs.length
 ·rw [if_pos h,if_pos h,if_pos (by omega)]
 ·rw [if_neg h,if_neg h,if_neg (by omega)]
def ZmL (l:List Z5) (d c:Int):List Z5:=(l.drop d.toNat).take c.toNat
def Zcm (l:List Z5) (d c:Int):Bool:=(ZmL l d c).any fun s=>!JB s
theorem s78 (s:Z5):g78 s.node.id.core s.node.id.op s.node.id.part (Zf s.node.path) s.node.cap.kind s.node.cap.base s.node.cap.bits s.node.cap.rights s.node.cap.width s.node.cap.level s.node.cap.device s.op s.lock.core s.lock.op s.lock.part=some (!JB s):=by
 rw [ZlB,s58,Option.bind_some]
theorem Zl6 (l:List Z5) (hl:l.length < 2^63):Zg3 (l.map Jb)=some (l.any fun s=>!JB s):=by
 have h:∃ r,Zh8 (l.map Jb)=some r∧cop .geq r 0=(List.range' 0 l.length).any (fun i=>!atB JB l i):=by
  rw [ZhR,List.length_map]
  refine ZeJ (F:=fun k z=>KS k (l.map Jb) (l.length:Int) z) (fun i=>!atB JB l i) hl (fun k i hi=>?_) (fun k i hi=>?_)
  ·show KS (k+1) _ _ _=_
   rw [Zad,if_pos (K1 hi)]
   refine (Ym hi _).trans ?_
   refine (congrArg (fun x=>Option.bind x _) (s78 l[i])).trans ?_
   rw [Option.bind_some,Kw hi hl,ZaD _ hi]
  ·show KS (k+1) _ _ _=_
   rw [Zad,if_neg (KZ hi)]
 obtain ⟨r,h1,h2⟩:=h
 rw [ZhN,h1,Option.bind_some,h2,ZjO,List.any_eq_not_all_not]
 simp
theorem s57 (l:List Z5) (hl:l.length < 2^62) (d c:Int) (hd:0≤d) (hc:0≤c) (h:d+c≤l.length):g57 (l.map Jb) d c=some (Zcm l d c):=by
 have e:iop .add .i64 d c=d+c:=Jj (by omega) (by omega)
 rw [Zl1,e,ZO hd,ZO (by omega),ZO (by rw [List.length_map];omega)]
 have e2:List.drop d.toNat (List.take (d+c).toNat (l.map Jb))=(ZmL l d c).map Jb:=by
  unfold ZmL
  rw [← List.map_take,← List.map_drop,List.drop_take]
  congr 2;omega
 rw [e2,Zl6 _ (by unfold ZmL;rw [List.length_take];omega),Option.bind_some]
 rfl
def wfB (core n:Int) (c:Call):Bool:=decide (
 (c.kind=1∧(0≤c.dest∧c.dest < n)∧6≤c.bits∧c.bits≤40)∨
 (c.kind=2∧(0≤c.slot∧c.slot < n)∧(1≤c.count∧c.count≤8)∧0≤c.dest∧c.dest≤n-c.count)∨
 (c.kind=3∧(0≤c.slot∧c.slot < n)∧(0≤c.dest∧c.dest < n)∧0≤c.mask∧c.mask≤7)∨
 (c.kind=4∧(0≤c.slot∧c.slot < n)∧(0≤c.dest∧c.dest < n)∧(0≤c.mask∧c.mask≤7)∧(0≤c.core∧c.core < 32)∧c.core≠core)∨
 ((c.kind=5∨c.kind=6)∧0≤c.slot∧c.slot < n))
theorem s53 (x n:Int):g53 x n=some (decide (0≤x∧x < n),n):=by
 rw [Zlv]
 refine Zz (fun h=>?_) (fun h=>?_)
 all_goals (refine congrArg (fun b=>some (b,n)) ?_;rw [ZV];simp only [CQ] at *; omega)
theorem ZkY (n q:Int) (h0:0≤n) (h1:n < 2^62):∃ t,iop .sub .i64 n q=t∧(1≤q→q≤8→t=n-q):=⟨_,rfl,fun h2 h3=>Zc6 (by omega) (by omega)⟩
set_option maxHeartbeats 4000000 in
theorem s32 (core n:Int) (c:Call) (h0:0≤n) (h1:n < 2^62):g32 core n c.kind c.slot c.dest c.core c.mask c.object c.bits c.level c.offset c.count c.index c.addr=some (wfB core n c):=by
 obtain ⟨t,ht,hs⟩:=ZkY n c.count h0 h1
 rw [Znn]
 simp only [s53,Option.bind_some,ht]
 repeat' (with_reducible refine Zz (fun _=>?_) (fun _=>?_))
 all_goals (refine congrArg some ?_;rw [ZV];simp only [wfB,CQ] at *; omega)
def Asc (l:List Int):Prop:=l.Pairwise (· < ·)
theorem Zj7:∀ {l m:List Int},Asc l→Asc m→(∀ x,x∈l↔x∈m)→l=m
 | [], [], _, _, _ => rfl
 | [], y :: m, _, _, h => absurd ((h y).2 (by simp)) (by simp)
 | x :: l, [], _, _, h => absurd ((h x).1 (by simp)) (by simp)
 | x :: l, y :: m, hl, hm, h => by
  obtain ⟨h1,h2⟩:=List.pairwise_cons.1 hl
  obtain ⟨k1,k2⟩:=List.pairwise_cons.1 hm
  have hxy:x=y:=by
   have a:=(h x).1 (by simp)
   have b:=(h y).2 (by simp)
   rcases List.mem_cons.1 a with a | a
   ·exact a
   ·rcases List.mem_cons.1 b with b | b
    ·exact b.symm
    ·have:=h1 y b;have:=k1 x a;omega
  subst hxy
  refine congrArg _ (Zj7 h2 k2 fun z=>?_)
  constructor
  ·intro hz
   have:=h1 z hz
   rcases List.mem_cons.1 ((h z).1 (List.mem_cons_of_mem _ hz)) with e | e
   ·omega
   ·exact e
  ·intro hz
   have:=k1 z hz
   rcases List.mem_cons.1 ((h z).2 (List.mem_cons_of_mem _ hz)) with e | e
   ·omega
   ·exact e
theorem Zix {l:List Int} (h:l.Pairwise (·≤·)):Asc (Lib.compact l)∧∀ x,x∈Lib.compact l↔x∈l:=by
 have get:∀ j,j < l.length→l.toArray[j]! = l[j]!:=fun j hj=>by simp
 constructor
 ·unfold Asc Lib.compact Lib.compactUpTo
  rw [List.pairwise_map]
  refine List.Pairwise.imp_of_mem ?_ ((List.pairwise_lt_range).filter _)
  intro a b ha hb hab
  obtain ⟨ha1,ha2⟩:=List.mem_filter.1 ha
  obtain ⟨hb1,hb2⟩:=List.mem_filter.1 hb
  rw [List.mem_range] at ha1 hb1
  have hk:=of_decide_eq_true hb2
  have hne:l.toArray[b]!≠l.toArray[b-1]!:=hk.resolve_left (by omega)
  have e1:l.toArray[b]! = l[b]:=by simp [hb1]
  have e2:l.toArray[b-1]! = l[b-1]:=by simp [show b-1 < l.length by omega]
  have e3:l.toArray[a]! = l[a]:=by simp [ha1]
  rw [e1,e2] at hne
  rw [e1,e3]
  have p:=List.pairwise_iff_getElem.1 h
  have q1:=p (b-1) b (by omega) hb1 (by omega)
  by_cases hab2:a=b-1
  ·subst hab2;omega
  ·have q2:=p a (b-1) ha1 (by omega) (by omega)
   omega
 ·intro x
  unfold Lib.compact Lib.compactUpTo
  rw [List.mem_map]
  constructor
  ·rintro ⟨j,hj,rfl⟩
   have hj:=List.mem_range.1 (List.mem_filter.1 hj).1
   have:l.toArray[j]! = l[j]:=by simp [hj]
   rw [this]
   exact List.getElem_mem hj
  ·intro hx
   have hlt:K2 (fun y=>decide (y=x)) l < l.length:=by
    obtain ⟨i,hi,hix⟩:=List.getElem_of_mem hx
    by_cases hc:K2 (fun y=>decide (y=x)) l < l.length
    ·exact hc
    ·have:=Wp (fun y=>decide (y=x)) l i hi (by omega)
     rw [hix] at this
     simp at this
   have hq:=of_decide_eq_true (Zbg (fun y=>decide (y=x)) l hlt)
   refine ⟨K2 (fun y=>decide (y=x)) l,List.mem_filter.2 ⟨List.mem_range.2 hlt,?_⟩,by simp [hlt,hq]⟩
   unfold Lib.keeps
   rw [decide_eq_true_eq]
   by_cases h0:K2 (fun y=>decide (y=x)) l=0
   ·exact .inl h0
   ·right
    have:=Wp (fun y=>decide (y=x)) l (K2 (fun y=>decide (y=x)) l-1) (by omega) (by omega)
    have e1:l.toArray[K2 (fun y=>decide (y=x)) l]! = l[K2 (fun y=>decide (y=x)) l]:=by simp [hlt]
    have e2:l.toArray[K2 (fun y=>decide (y=x)) l-1]! = l[K2 (fun y=>decide (y=x)) l-1]:=by simp [show K2 (fun y=>decide (y=x)) l-1 < l.length by omega]
    rw [e1,e2,hq]
    intro e
    rw [← e] at this
    simp at this
theorem Wn (k s d c:Int):Asc (Yu k s d c)∧∀ x,x∈Yu k s d c↔x∈JH k s d c:=by
 have hs:((JH k s d c).mergeSort fun x y=>decide (x≤y)).Pairwise (·≤·):=by
  have:=List.pairwise_mergeSort (le:=fun x y:Int=>decide (x≤y)) (fun a b c h1 h2=>by simp only [decide_eq_true_eq] at *; omega) (fun a b=>by simp only [Bool.or_eq_true,decide_eq_true_eq];omega) (JH k s d c)
  exact this.imp fun h=>by simpa using h
 obtain ⟨h1,h2⟩:=Zix hs
 refine ⟨h1,fun x=>?_⟩
 rw [Yu,h2 x]
 exact (List.mergeSort_perm _ _).mem_iff
theorem Wo {core n:Int} {c:Call} (hn:n < 2^62) (h:wfB core n c=true):∀ x∈Yu c.kind c.slot c.dest c.count,0≤x∧x < n:=by
 have hw:=of_decide_eq_true h
 intro x hx
 have hx:=((Wn c.kind c.slot c.dest c.count).2 x).1 hx
 unfold JH at hx
 split at hx
 ·simp at hx;omega
 ·split at hx
  ·rcases List.mem_cons.1 hx with a | a
   ·omega
   ·obtain ⟨i,hi,rfl⟩:=List.mem_map.1 a
    have hi:=List.mem_range.1 hi
    have e:iop .add .i64 c.dest (i:Int)=c.dest+(i:Int):=Jj (by omega) (by omega)
    rw [e];omega
  ·split at hx
   ·simp at hx;omega
   ·simp at hx;omega
end Go.Proofs.Ytmjkdbpffdampaa
end

section
namespace Go.Proofs.Ytmjkdbpffdampaa
open Go Go.AM
set_option linter.unusedSimpArgs false
set_option linter.unusedVariables false
set_option maxRecDepth 100000
def Zn6 (r:Req) (l:List Int) (e:Int):Int×Int×Int×Int×Int×Int×Int×Int×Int×Int×Int×Int×Int×Int×Int×Int×Int×Int×Int×Int×LL×Int×Int×Int×Int×Int×Int×Bool×LL×Int:=(r.id.core,r.id.op,r.id.part,r.call.kind,r.call.slot,r.call.dest,r.call.core,r.call.mask,r.call.object,r.call.bits,r.call.level,r.call.offset,r.call.count,r.call.index,r.call.addr,r.region,r.width,r.src.id.core,r.src.id.op,r.src.id.part,Zf r.src.path,r.src.cap.kind,r.src.cap.base,r.src.cap.bits,r.src.cap.rights,r.src.cap.width,r.src.cap.level,r.src.cap.device,Zb l,e)
def Zj9:Z5:=⟨Jo,0,⟨0,0,0⟩⟩
def getS (ss:List Z5) (i:Int):Z5:=ss[i.toNat]?.getD Zj9
theorem Ys {γ:Type} {l:List Z5} {i:Int} (h0:0≤i) (h:i < l.length) (k:ShsT ZdC→Option γ):Zq (l.map Jb) i ZdC k=k (ZhG (getS l i)):=by
 obtain ⟨j,rfl⟩:∃ j:Nat,i=j:=⟨i.toNat,by omega⟩
 have hj:j < l.length:=by omega
 refine (Ym hj k).trans ?_
 simp [getS,hj]
theorem ZiM {l:List Z5} {i:Int} (h0:0≤i) (h:i < l.length):getS l i∈l:=by
 have hj:i.toNat < l.length:=by omega
 unfold getS
 rw [List.getElem?_eq_getElem hj]
 exact List.getElem_mem hj
def Kd (ss:List Z5) (rs:List Reg) (c:Call):Int:=
 if Yl c.offset c.bits=false then 6 else if YL rs c.offset c.bits < 0 then 11 else if Zcm ss c.dest 1=true then 3 else 0
def Zlm (width:Int) (ss:List Z5) (ms:List Int) (n:KP) (c:Call):Int:=
 if c.kind=2 then (if Yt n.cap c.object c.bits c.level width c.offset c.count≠0 then Yt n.cap c.object c.bits c.level width c.offset c.count else if Zcm ss c.dest c.count=true then 3 else if 8≤n.path.length then 9 else 0)
 else if c.kind=3 then (if Zcm ss c.dest 1=true then 3 else if 8≤n.path.length then 9 else 0)
 else if c.kind=4 then (if n.cap.kind=3∨n.cap.kind=5∨n.cap.kind=6 then 5 else if iop .and .i64 n.cap.rights 4=0 then 8 else if 8≤n.path.length then 9 else if ms.any (fun x=>decide (c.core=x))=false then 10 else 0)
 else 0
def ZjE (width:Int) (ss:List Z5) (ms:List Int) (s:Z5) (c:Call):Int:=if JB s=true then 2 else Zlm width ss ms s.node c
theorem s35 (ss:List Z5) (rs:List Reg) (c:Call) (hs:ss.length < 2^62) (hr:rs.length < 2^63) (h0:0≤c.dest) (h1:c.dest < ss.length):g35 (ss.map Jb) (rs.map Za4) c.kind c.slot c.dest c.core c.mask c.object c.bits c.level c.offset c.count c.index c.addr=some (Kd ss rs c):=by
 rw [Zm0]
 simp only [s56,s22 rs hr,s57 ss hs c.dest 1 h0 (by omega) (by omega),Option.bind_some]
 unfold Kd
 cases Yl c.offset c.bits with
 | false => rfl
 | true =>
  by_cases h:0≤YL rs c.offset c.bits
  ·rw [if_pos h]
   simp only [Bool.not_true,Bool.false_eq_true,if_false,Bool.true_eq_false,show ¬ YL rs c.offset c.bits < 0 by omega]
   split<;>rfl
  ·rw [if_neg h]
   simp only [Bool.not_true,Bool.not_false,Bool.false_eq_true,if_false,if_true,Bool.true_eq_false,show YL rs c.offset c.bits < 0 by omega]
theorem s36 (core width:Int) (ss:List Z5) (ms:List Int) (c:Call) (hs:ss.length < 2^62) (hm:ms.length < 2^63) (hw:wfB core ss.length c=true) (hk:c.kind≠1) (hp:(getS ss c.slot).node.path.length < 2^62) :
  g36 width (ss.map Jb) (Zb ms) c.kind c.slot c.dest c.core c.mask c.object c.bits c.level c.offset c.count c.index c.addr=some (ZjE width ss ms (getS ss c.slot) c):=by
 have w:=of_decide_eq_true hw
 have a0:0≤c.slot:=by omega
 have a1:c.slot < ss.length:=by omega
 rw [Zlz]
 refine (Ys a0 a1 _).trans ?_
 refine (Ys a0 a1 _).trans ?_
 refine (congrArg (fun x=>Option.bind x _) (s58 _)).trans ?_
 generalize getS ss c.slot=s at hp
 obtain ⟨⟨⟨i1,i2,i3⟩,path,⟨ck,cb,cs,cr,cw,cl,cd⟩⟩,sop,⟨j1,j2,j3⟩⟩:=s
 rw [Option.bind_some]
 simp only [ZhG,s59,s60 ms hm]
 unfold ZjE
 refine Zz (fun h=>by rw [if_pos h]) fun h=>?_
 rw [if_neg h]
 unfold Zlm
 have ln:(List.length (Zf path):Int)=path.length:=by simp [Zf]
 refine Zz (fun h2=>?_) fun h2=>?_
 ·simp only [CQ] at h2
  rw [if_pos h2,s57 ss hs c.dest c.count (by omega) (by omega) (by omega)]
  simp only [Option.bind_some,ln]
  repeat' (with_reducible refine Zz (fun _=>?_) (fun _=>?_))
  all_goals (refine congrArg some ?_;(try simp only [CQ] at *);grind)
 simp only [CQ] at h2
 rw [if_neg h2]
 refine Zz (fun h3=>?_) fun h3=>?_
 ·simp only [CQ] at h3
  rw [if_pos h3,s57 ss hs c.dest 1 (by omega) (by omega) (by omega)]
  simp only [Option.bind_some,ln]
  repeat' (with_reducible refine Zz (fun _=>?_) (fun _=>?_))
  all_goals (refine congrArg some ?_;(try simp only [CQ] at *);grind)
 simp only [CQ] at h3
 rw [if_neg h3]
 simp only [Option.bind_some,ln]
 repeat' (with_reducible refine Zz (fun _=>?_) (fun _=>?_))
 all_goals (refine congrArg some ?_;(try simp only [CQ] at *);grind)
def VW (core op width:Int) (ss:List Z5) (rs:List Reg) (ms:List Int) (c:Call):Req×List Int×Int:=
 if c.kind=1 then (if Kd ss rs c≠0 then (WB,[],Kd ss rs c) else (⟨⟨core,op,0⟩,c,YL rs c.offset c.bits,width,Jo⟩,Yu c.kind c.slot c.dest c.count,0))
 else if ZjE width ss ms (getS ss c.slot) c≠0 then (WB,[],ZjE width ss ms (getS ss c.slot) c)
 else if YL rs (getS ss c.slot).node.cap.base (getS ss c.slot).node.cap.bits < 0 then (WB,[],11)
 else (⟨⟨core,op,0⟩,c,YL rs (getS ss c.slot).node.cap.base (getS ss c.slot).node.cap.bits,width,(getS ss c.slot).node⟩,Yu c.kind c.slot c.dest c.count,0)
def Kv (ss:List Z5) (c:Call):Bool:=(Yu c.kind c.slot c.dest c.count).any fun i=>KW (getS ss i)
def ZaS (core op width:Int) (n:Int) (c:Call):Bool:=decide (0≤core∧core < 32∧1≤op∧op≤1073741824∧(width=32∨width=39))&&wfB core n c
def YI (core op width:Int) (ss:List Z5) (rs:List Reg) (ms:List Int) (c:Call):Req×List Int×Int:=
 if ZaS core op width ss.length c=false then (WB,[],1) else if Kv ss c=true then (WB,[],4) else VW core op width ss rs ms c
def Yy (p:Req×List Int×Int):=Zn6 p.1 p.2.1 p.2.2
theorem Zc9 {ss:List Z5} {rs:List Reg} {c:Call} (h:Kd ss rs c=0):Yl c.offset c.bits=true∧0≤YL rs c.offset c.bits∧Zcm ss c.dest 1=false:=by
 unfold Kd at h
 split at h
 ·omega
 ·split at h
  ·omega
  ·split at h
   ·omega
   ·rename_i h1 h2 h3
    exact ⟨by simpa using h1,by omega,by simpa using h3⟩
theorem ZhO {ss:List Z5} (h:Zhi ss):ss.length≤70:=h.1
theorem ZiD {ss:List Z5} (h:Zhi ss) {i:Int} (h0:0≤i) (h1:i < ss.length):(getS ss i).node.path.length≤20:=h.2 _ (ZiM h0 h1)
set_option maxHeartbeats 4000000 in
theorem Zmo (core op width:Int) (ss:List Z5) (rs:List Reg) (ms:List Int) (c:Call) (hs:Zhi ss) (hr:rs.length < 2^63) (hm:ms.length < 2^63) (hw:wfB core ss.length c=true) (k i:Nat) (hi:(Yu c.kind c.slot c.dest c.count).length≤i) :
  ZcX (k+1) core op width (ss.map Jb) (rs.map Za4) (Zb ms) c.kind c.slot c.dest c.core c.mask c.object c.bits c.level c.offset c.count c.index c.addr 0 0 0 0 0 0 0 0 0 0 0 0 0 0 0 0 0 0 0 0 E0 0 0 0 0 0 0 false (Zb (Yu c.kind c.slot c.dest c.count)) (Zb (Yu c.kind c.slot c.dest c.count)) (List.length (Zb (Yu c.kind c.slot c.dest c.count)):Int) (i:Int)=some (Yy (VW core op width ss rs ms c)):=by
 have w:=of_decide_eq_true hw
 have hs1:=ZhO hs
 rw [Zfd,Jm,if_neg (KZ hi)]
 unfold VW
 refine Zz (fun h1=>?_) fun h1=>?_
 ·simp only [CQ] at h1
  rw [if_pos h1]
  refine (congrArg (fun x=>Option.bind x _) (s35 ss rs c (by omega) hr (by omega) (by omega))).trans ?_
  rw [Option.bind_some]
  refine Zz (fun h2=>?_) fun h2=>?_
  ·simp only [CQ] at h2
   rw [if_pos h2];rfl
  ·simp only [CQ] at h2
   have h2':Kd ss rs c=0:=by omega
   rw [if_neg h2]
   refine (congrArg (fun x=>Option.bind x _) (s22 rs hr c.offset c.bits)).trans ?_
   rw [if_pos (Zc9 h2').2.1,Option.bind_some]
   rfl
 ·simp only [CQ] at h1
  have a0:0≤c.slot:=by omega
  have a1:c.slot < ss.length:=by omega
  have hp:=ZiD hs a0 a1
  rw [if_neg h1]
  refine (congrArg (fun x=>Option.bind x _) (s36 core width ss ms c (by omega) hm hw h1 (by omega))).trans ?_
  rw [Option.bind_some]
  refine (Ys a0 a1 _).trans ?_
  refine (congrArg (fun x=>Option.bind x _) (s37 (getS ss c.slot).node (by omega))).trans ?_
  rw [Option.bind_some]
  refine (congrArg (fun x=>Option.bind x _) (s38 ..)).trans ?_
  rw [Option.bind_some]
  refine Zz (fun h2=>?_) fun h2=>?_
  ·simp only [CQ] at h2
   rw [if_pos h2];rfl
  ·simp only [CQ] at h2
   rw [if_neg h2]
   refine (congrArg (fun x=>Option.bind x _) (s22 rs hr (getS ss c.slot).node.cap.base (getS ss c.slot).node.cap.bits)).trans ?_
   by_cases h3:0≤YL rs (getS ss c.slot).node.cap.base (getS ss c.slot).node.cap.bits
   ·rw [if_pos h3,if_neg (by omega),Option.bind_some];rfl
   ·rw [if_neg h3,if_pos (by omega),Option.bind_some];rfl
theorem ZjD (ss:List Z5) (c:Call) {α:Type} (a b:α):(if (List.range' 0 (Yu c.kind c.slot c.dest c.count).length).all (atB (fun i=>!KW (getS ss i)) (Yu c.kind c.slot c.dest c.count))=true then a else b)=if Kv ss c=true then b else a:=by
 rw [ZhP]
 unfold Kv
 rw [List.any_eq_not_all_not]
 cases (Yu c.kind c.slot c.dest c.count).all (fun i=>!KW (getS ss i))<;>rfl
theorem ZdU (c:Call) (hc:c.count≤1000):(Yu c.kind c.slot c.dest c.count).length≤1001:=by
 have h1:=ZjP ((JH c.kind c.slot c.dest c.count).mergeSort fun x y=>decide (x≤y))
 rw [List.length_mergeSort] at h1
 refine Nat.le_trans h1 ?_
 unfold JH
 split
 ·simp
 ·split
  ·simp;omega
  ·split<;>simp
set_option maxHeartbeats 4000000 in
theorem s11 (core op width:Int) (ss:List Z5) (rs:List Reg) (ms:List Int) (c:Call) (hs:Zhi ss) (hr:rs.length < 2^63) (hm:ms.length < 2^63) (hc:c.count≤1000) :
    g11 core op width (ss.map Jb) (rs.map Za4) (Zb ms) c.kind c.slot c.dest c.core c.mask c.object c.bits c.level c.offset c.count c.index c.addr=some (Yy (YI core op width ss rs ms c)):=by
  have hs1:=ZhO hs
  have hinv:g33 c.kind c.slot c.dest c.core c.mask c.object c.bits c.level c.offset c.count c.index c.addr=some (Zb (Yu c.kind c.slot c.dest c.count)):=by
    rw [Zna]
    unfold Zmx
    rw [ZO hc]
    rfl
  have main:wfB core ss.length c=true→ZcX Z6 core op width (ss.map Jb) (rs.map Za4) (Zb ms) c.kind c.slot c.dest c.core c.mask c.object c.bits c.level c.offset c.count c.index c.addr 0 0 0 0 0 0 0 0 0 0 0 0 0 0 0 0 0 0 0 0 E0 0 0 0 0 0 0 false (Zb (Yu c.kind c.slot c.dest c.count)) (Zb (Yu c.kind c.slot c.dest c.count)) (List.length (Zb (Yu c.kind c.slot c.dest c.count)):Int) 0=some (Yy (if Kv ss c=true then (WB,[],4) else VW core op width ss rs ms c)):=fun hw=>by
    have:=ZeT (F:=fun k z=>ZcX k core op width (ss.map Jb) (rs.map Za4) (Zb ms) c.kind c.slot c.dest c.core c.mask c.object c.bits c.level c.offset c.count c.index c.addr 0 0 0 0 0 0 0 0 0 0 0 0 0 0 0 0 0 0 0 0 E0 0 0 0 0 0 0 false (Zb (Yu c.kind c.slot c.dest c.count)) (Zb (Yu c.kind c.slot c.dest c.count)) (List.length (Zb (Yu c.kind c.slot c.dest c.count)):Int) z) (n:=(Yu c.kind c.slot c.dest c.count).length) (fin:=some (Yy (VW core op width ss rs ms c))) (bad:=some (Yy (WB,[],4))) (atB (fun i=>!KW (getS ss i)) (Yu c.kind c.slot c.dest c.count)) (by have:=ZdU c hc;omega) 0 (by omega)
      (fun k i _ hi=>by
        show ZcX (k+1) core op width (ss.map Jb) (rs.map Za4) (Zb ms) c.kind c.slot c.dest c.core c.mask c.object c.bits c.level c.offset c.count c.index c.addr 0 0 0 0 0 0 0 0 0 0 0 0 0 0 0 0 0 0 0 0 E0 0 0 0 0 0 0 false (Zb (Yu c.kind c.slot c.dest c.count)) (Zb (Yu c.kind c.slot c.dest c.count)) (List.length (Zb (Yu c.kind c.slot c.dest c.count)):Int) (i:Int)=_
        obtain ⟨b0,b1⟩:=Wo (by omega) hw _ (List.getElem_mem hi)
        have hlen:=ZdU c hc
        rw [Zfd,Jm,if_pos (K1 hi)]
        refine (Jp hi _).trans ?_
        refine (Ys b0 b1 _).trans ?_
        refine (congrArg (fun x=>Option.bind x _) (s34 _)).trans ?_
        rw [Option.bind_some,Kw hi (by omega),ZaD _ hi]
        cases KW (getS ss (Yu c.kind c.slot c.dest c.count)[i])<;>rfl)
      (fun k i hi=>Zmo core op width ss rs ms c hs hr hm hw k i hi)
    rw [Nat.sub_zero,ZjD] at this
    refine Eq.trans this ?_
    split<;>rfl
  have hw36:=s32 core ss.length c (by omega) (by omega)
  rw [Zmr,List.length_map,hw36,hinv]
  simp only [Option.bind_some]
  unfold YI
  by_cases ha:ZaS core op width ss.length c=false
  · rw [if_pos ha]
    unfold ZaS at ha
    repeat' (with_reducible refine Zz (fun _=>?_) (fun _=>?_))
    all_goals first
      | rfl
      | (exfalso; simp only [CQ] at *; rw [Bool.and_eq_false_iff, decide_eq_false_iff_not] at ha; rename_i hlast; (try simp only [Bool.not_eq_true, Bool.not_eq_false'] at hlast); rcases ha with ha | ha
         · omega
         · rw [ha] at hlast;cases hlast)
  · rw [if_neg ha]
    have ha':ZaS core op width ss.length c=true:=by simpa using ha
    unfold ZaS at ha'
    rw [Bool.and_eq_true,decide_eq_true_eq] at ha'
    obtain ⟨a1,hw⟩:=ha'
    rw [hw,← main hw]
    repeat' (with_reducible refine Zz (fun _=>?_) (fun _=>?_))
    all_goals first
      | rfl
      | (exfalso; simp only [CQ, Bool.not_true, Bool.false_eq_true] at * <;> omega)
end Go.Proofs.Ytmjkdbpffdampaa
end

section
namespace Go.Proofs.Ytmjkdbpffdampaa
open Go Go.AM
set_option linter.unusedSimpArgs false
set_option linter.unusedVariables false
set_option maxRecDepth 100000
def ZnK (r:LL×Int×Int×LL×LL):Prop:=∃ (n p:Int) (ws:List Int) (rs:List Reg) (os:List Int),r=(Zb ws,n,p,rs.map Za4,Zb os)∧1≤ws.length∧ws.length≤4∧1≤rs.length∧rs.length≤3
theorem Zpg (l:List Int) (x1 x4 x5:LL) (x2 x3:Int) (ws:List Int) (h1:1≤ws.length) (h2:ws.length≤4) (x7 x8:Int) (h7:1≤x7) (h7':x7 < 100) (q:Nat) (hq1:1≤q) (hq:q≤3) :
  Ret ZnK (Zhq Z6 (Zb l) x1 x2 x3 x4 x5 (Zb ws) x7 x8 E0 E0 (q:Int) 0):=by
 refine Yw (F:=fun k (s:LL×LL) z=>Zhq k (Zb l) x1 x2 x3 x4 x5 (Zb ws) x7 x8 s.1 s.2 (q:Int) z) q (fun i s=>∃ (rs:List Reg) (os:List Int),s=(rs.map Za4,Zb os)∧rs.length=i∧os.length=i) (by omega) ?_ (E0,E0) ⟨[],[],rfl,rfl,rfl⟩
 rintro k i s hi ⟨rs,os,rfl,hr,ho⟩ next
 refine Z3 (ZiK ..) ?_
 refine Zc (fun hlt=>?_) fun hge=>?_
 ·simp only [CQ] at hlt
  refine Zd (by decide) ?_
  refine Za (Z9 l _) fun v1 _=>Za (place v1 3 (by decide) (by decide)) fun b _=>Za (Z9 l _) fun v2 _=>Za (place v2 5 (by decide) (by decide)) fun d _=>?_
  refine Zd (Ka (by simp;omega)) (Zd (Ka (by simp;omega)) (Zd (Ka (by simp [Jm];omega)) ?_))
  refine Za (Z9 l _) fun v3 _=>Za (place v3 x7 h7 (by omega)) fun w _=>?_
  refine Zd (Ka (by simp [Jm];omega)) ?_
  simp only [Zee hi (by omega)]
  exact next (by omega) (_,_) ⟨rs++[⟨iop .shl .i64 ((i+1:Nat):Int) 18,iop .add .i64 15 b,cop .eql d 4⟩],os++[w],by simp [Zb,Zl4,Za4],by simp [hr],by simp [ho]⟩
 ·simp only [CQ] at hge
  exact Zg ⟨_,_,ws,rs,os,rfl,h1,h2,by omega,by omega⟩
theorem s30 (l:List Int):Ret ZnK (g30 (Zb l)):=by
 rw [ZlT]
 refine Za (Z9 l 0) fun v1 _=>Za (place v1 4 (by decide) (by decide)) fun a ha=>?_
 have ea:iop .add .i64 1 a=1+a:=Jj (by omega) (by omega)
 rw [ea]
 refine Za (Z9 l 1) fun v2 _=>Za (place v2 (1+a) (by omega) (by omega)) fun b hb=>?_
 refine Za (Z9 l 2) fun v3 _=>Za (place v3 7 (by decide) (by decide)) fun c hc=>Za (Z9 l 3) fun v4 _=>Za (place v4 3 (by decide) (by decide)) fun d hd=>?_
 have eb:iop .add .i64 1 b=1+b:=Jj (by omega) (by omega)
 have ed:iop .add .i64 1 d=1+d:=Jj (by omega) (by omega)
 rw [eb,ed]
 obtain ⟨n,hn⟩:∃ n:Nat,1+a=n:=⟨(1+a).toNat,by omega⟩
 obtain ⟨q,hq⟩:∃ q:Nat,1+d=q:=⟨(1+d).toNat,by omega⟩
 rw [hn,hq]
 refine Yw (F:=fun k (s:LL) z=>Ziv k (Zb l) E0 0 0 E0 E0 (n:Int) s (1+b) (iop .add .i64 4 c) E0 E0 (q:Int) z) n (fun i s=>∃ ws,s=Zb ws∧ws.length=i) (by omega) ?_ E0 ⟨[],rfl,rfl⟩
 rintro k i s hi ⟨ws,rfl,hw⟩ next
 refine Z3 (Zjz ..) ?_
 refine Zc (fun hlt=>?_) fun hge=>?_
 ·simp only [CQ] at hlt
  refine Zd (Ka (by simp [Jm];omega)) ?_
  refine Za (Z9 l _) fun v _=>Za (place v 2 (by decide) (by decide)) fun w hw'=>?_
  refine ZbV hw'.1 hw'.2 fun x _=>?_
  refine Zd (Ka (by simp [Jm];omega)) ?_
  rw [Zee hi (by omega)]
  exact next (by omega) _ ⟨ws++[x],by simp [Zb,Zl4],by simp [hw]⟩
 ·simp only [CQ] at hge
  exact Zpg l _ _ _ _ _ ws (by omega) (by omega) (1+b) _ (by omega) (by omega) q (by omega) (by omega)
theorem s9 (l:List Int):Ret ZnK (g9 (Zb l)):=by
 rw [Zoi]
 refine Za (s30 l) fun r ⟨n,p,ws,rs,os,e,h⟩=>?_
 subst e
 exact Zg ⟨_,_,ws,rs,os,rfl,h⟩
theorem ZhK (z:Int):0≤IntKind.u64.wrap z:=by
 simp only [IntKind.wrap]
 have:IntKind.u64.signed=false:=rfl
 simp [this,IntKind.bits]
 omega
theorem s31 (a b:Int):Ret (fun _=>True) (g31 a b):=by
 rw [ZmN]
 refine Za (place _ _ (by decide) (by decide)) fun _ _=>Zd (by decide) (Zd (by decide) (Za (place _ _ (by decide) (by decide)) fun _ _=>Zc (fun _=>?_) fun _=>?_))
 ·exact Zd (by decide) (Za (place _ _ (by decide) (by decide)) fun _ _=>Zd (by decide) (Zg trivial))
 ·exact Zd (by decide) (Za (place _ _ (by decide) (by decide)) fun _ _=>Zd (by decide) (Zd (by decide) (Za (place _ _ (by decide) (by decide)) fun _ _=>Zd (by decide) (Zg trivial))))
def Zok (c:Call):Qt13:=(c.kind,c.slot,c.dest,c.core,c.mask,c.object,c.bits,c.level,c.offset,c.count,c.index,c.addr)
theorem Zdd {γ:Type} {P:γ→Prop} {l:List Reg} {z:Int} {k:(Int×Int×Bool)→Option γ} (h0:0≤z) (h:z.toNat < l.length) (hk:∀ r,Ret P (k r)):Ret P (Zq (l.map Za4) z [.int .i64,.int .i64,.bool] k):=by
 have e:z=((z.toNat:Nat):Int):=by omega
 have:=ZaW h k
 rw [← e] at this
 exact Z3 this (hk _)
def Zm4 (r:Qt13):Prop:=∃ c:Call,r=Zok c∧c.count≤1000
theorem Zak {a b d e f g h i j k l m:Int} (hk:k≤1000):Ret Zm4 (some ((a,b,d,e,f,g,h,i,j,k,l,m):Qt13)):=Zg ⟨⟨a,b,d,e,f,g,h,i,j,k,l,m⟩,rfl,hk⟩
theorem s10 (ws:List Int) (n:Int) (rs:List Reg) (os:LL) (k w0 w1 w2 w3 w4 w5 w6 w7 w8:Int) (h1:1≤ws.length) (h2:ws.length≤4) (h3:1≤rs.length) (h4:rs.length≤3) :
  Ret Zm4 (g10 (Zb ws) n 12 (rs.map Za4) os k w0 w1 w2 w3 w4 w5 w6 w7 w8):=by
 rw [Zl9]
 refine Za (place _ _ (by decide) (by decide)) fun a ha=>Za (place _ _ (by decide) (by decide)) fun b hb=>Za (place _ _ (by decide) (by decide)) fun d hd=>Za (place _ _ (by decide) (by decide)) fun e he=>?_
 have lr:(List.length (rs.map Za4):Int)=rs.length:=by simp
 have lw:(List.length (Zb ws):Int)=ws.length:=by simp [Jm]
 refine Zc (fun _=>?_) fun _=>Zc (fun _=>?_) fun _=>Zc (fun _=>?_) fun _=>Zc (fun _=>?_) fun _=>Zc (fun _=>?_) fun _=>Zc (fun _=>?_) fun _=>Zak (by decide)
 ·rw [lr]
  refine Za (place _ _ (by omega) (by omega)) fun r hr=>Zdd hr.1 (by omega) fun g=>Za (place _ _ (by decide) (by decide)) fun x hx=>Za (place _ _ (by decide) (by decide)) fun y _=>?_
  refine Zd (ZhK _) (Zak (by decide))
 ·refine Za (place _ _ (by decide) (by decide)) fun x hx=>Za (place _ _ (by decide) (by decide)) fun y hy=>?_
  rw [show iop .sub .i64 (iop .add .i64 1 x) 1=x by rw [Jj (by omega) (by omega),Zc6 (by omega) (by omega)];omega]
  refine YG (l:=[iop .add .i64 12 y,12,12,6,10,16]) hx.1 (by simp;omega) ?_
  refine Za (place _ _ (by decide) (by decide)) fun _ _=>Za (place _ _ (by decide) (by decide)) fun z hz=>Za (place _ _ (by decide) (by decide)) fun _ _=>Zd ?_ (Zak ?_)
  ·refine ZhK _
  ·rw [Jj (by omega) (by omega)];omega
 ·rw [lw]
  exact Za (place _ _ (by omega) (by omega)) fun _ _=>Zak (by decide)
 ·exact Za (place _ _ (by decide) (by decide)) fun _ _=>Zak (by decide)
 ·exact Za (place _ _ (by decide) (by decide)) fun _ _=>Zak (by decide)
 ·refine Za (place _ _ (by decide) (by decide)) fun _ _=>?_
  rw [lw]
  exact Za (place _ _ (by omega) (by omega)) fun v hv=>YG hv.1 (by omega) (Za (s31 _ _) fun _ _=>Zak (by decide))
theorem Zho {ss:List Z5} (h:Zhi ss) (i:Int):(getS ss i).node.path.length≤20:=by
 unfold getS
 cases e:ss[i.toNat]? with
 | none => exact Nat.zero_le _
 | some s => exact h.2 _ (List.mem_of_getElem? e)
theorem ZdM:Yu 1 0 2 0 = [2]:=by
 obtain ⟨h1,h2⟩:=Wn 1 0 2 0
 exact Zj7 h1 (List.pairwise_singleton _ _) fun x=>(h2 x).trans (by simp [JH])
def awC:Call:=⟨1,0,2,0,0,0,14,0,262144,0,0,0⟩
def awS:List Z5:=List.replicate 4 Zj9
def awR:List Reg:=[⟨262144,16,false⟩]
theorem Zkj:YI 1 5 32 awS awR [0,1] awC=(⟨⟨1,5,0⟩,awC,0,32,Jo⟩,[2],0):=by
 have hb:Kv awS awC=false:=by
  show List.any (Yu 1 0 2 0) _=false
  rw [ZdM];kernel_rfl
 unfold YI
 rw [hb,if_neg (show ¬ ZaS 1 5 32 awS.length awC=false by decide),if_neg (by decide)]
 unfold VW
 rw [if_pos (show awC.kind=1 from rfl),if_neg (show ¬ Kd awS awR awC≠0 from not_not_intro (by kernel_rfl))]
 show (_,Yu 1 0 2 0,_)=_
 rw [ZdM];kernel_rfl
theorem s5:g5=some true:=by
 rw [ZnY,ZO (by decide),ZO (by decide),ZO (by decide)]
 simp only [ZjW,Option.bind_some]
 refine (congrArg (fun x=>Option.bind x _) ((s11 1 5 32 awS awR [0,1] awC ⟨by decide,by decide⟩ (by decide) (by decide) (by decide)).trans (congrArg (fun x=>some (Yy x)) Zkj))).trans ?_
 rw [Option.bind_some]
 refine (congrArg (fun x=>Option.bind x _) (s22 awR (by decide) 262144 12)).trans ?_
 kernel_rfl
theorem Zkv {d:Nat} {cs:List AV} (h:TyR Try.prog (d+2) 25 cs):∃ w0 w1 w2 w3 w4 w5 w6 w7 w8,cs = [I w0,I w1,I w2,I w3,I w4,I w5,I w6,I w7,I w8]:=by
 rw [TyR] at h
 simp only [Try.underlying25] at h
 obtain ⟨ps,rfl,hl,hp⟩:=h
 obtain ⟨p0,p1,p2,p3,p4,p5,p6,p7,p8,rfl⟩:∃ p0 p1 p2 p3 p4 p5 p6 p7 p8,ps = [p0,p1,p2,p3,p4,p5,p6,p7,p8]:=by
  match ps,hl with
  | [p0, p1, p2, p3, p4, p5, p6, p7, p8], _ => exact ⟨p0, p1, p2, p3, p4, p5, p6, p7, p8, rfl⟩
 obtain ⟨w0,rfl⟩:=JW (hp 0 _ _ rfl rfl)
 obtain ⟨w1,rfl⟩:=JW (hp 1 _ _ rfl rfl)
 obtain ⟨w2,rfl⟩:=JW (hp 2 _ _ rfl rfl)
 obtain ⟨w3,rfl⟩:=JW (hp 3 _ _ rfl rfl)
 obtain ⟨w4,rfl⟩:=JW (hp 4 _ _ rfl rfl)
 obtain ⟨w5,rfl⟩:=JW (hp 5 _ _ rfl rfl)
 obtain ⟨w6,rfl⟩:=JW (hp 6 _ _ rfl rfl)
 obtain ⟨w7,rfl⟩:=JW (hp 7 _ _ rfl rfl)
 obtain ⟨w8,rfl⟩:=JW (hp 8 _ _ rfl rfl)
 exact ⟨w0,w1,w2,w3,w4,w5,w6,w7,w8,rfl⟩
theorem Zip {x:AV} (h:KY Try.prog 12 25 x):∃ w0 w1 w2 w3 w4 w5 w6 w7 w8,x = .agg [I w0,I w1,I w2,I w3,I w4,I w5,I w6,I w7,I w8]:=by
 simp only [KY,Try.underlying25] at h
 obtain ⟨cs,rfl,h⟩:=h
 obtain ⟨w0,w1,w2,w3,w4,w5,w6,w7,w8,rfl⟩:=Zkv h
 exact ⟨w0,w1,w2,w3,w4,w5,w6,w7,w8,rfl⟩
theorem ZjF {x:AV} (h:KY Try.prog 12 4 x):∃ z,x=B z:=by
 simp only [KY,Try.underlying4] at h
 obtain ⟨z,hz⟩:=Zeq h.2
 exact ⟨z,by simpa using hz⟩
end Go.Proofs.Ytmjkdbpffdampaa
end

section
namespace Go.Proofs.Ytmjkdbpffdampaa
open Go Go.AM
set_option linter.unusedSimpArgs false
set_option linter.unusedVariables false
set_option maxRecDepth 100000
theorem Zko {core op width:Int} {ss:List Z5} {rs:List Reg} {ms:List Int} {c:Call} (h:(YI core op width ss rs ms c).2.2=0):ZaS core op width ss.length c=true∧Kv ss c=false∧∃ (reg:Int) (n:KP),YI core op width ss rs ms c=(⟨⟨core,op,0⟩,c,reg,width,n⟩,(Yu c.kind c.slot c.dest c.count),0)∧0≤reg∧
  ((c.kind=1∧n=Jo∧reg=YL rs c.offset c.bits)∨(c.kind≠1∧n=(getS ss c.slot).node∧JB (getS ss c.slot)=false∧reg=YL rs n.cap.base n.cap.bits)):=by
 unfold YI at h ⊢
 by_cases h1:ZaS core op width ss.length c=false
 ·rw [if_pos h1] at h;exact absurd h (show ¬ ((1:Int)=0) by decide)
 rw [if_neg h1] at h ⊢
 by_cases h2:Kv ss c=true
 ·rw [if_pos h2] at h;exact absurd h (show ¬ ((4:Int)=0) by decide)
 rw [if_neg h2] at h ⊢
 refine ⟨by simpa using h1,by simpa using h2,?_⟩
 unfold VW at h ⊢
 by_cases h3:c.kind=1
 ·rw [if_pos h3] at h ⊢
  by_cases h4:Kd ss rs c=0
  ·rw [if_neg (not_not_intro h4)]
   exact ⟨_,_,rfl,(Zc9 h4).2.1,.inl ⟨h3,rfl,rfl⟩⟩
  ·rw [if_pos h4] at h;exact absurd h h4
 ·rw [if_neg h3] at h ⊢
  by_cases h4:ZjE width ss ms (getS ss c.slot) c=0
  ·rw [if_neg (not_not_intro h4)] at h ⊢
   by_cases h5:YL rs (getS ss c.slot).node.cap.base (getS ss c.slot).node.cap.bits < 0
   ·rw [if_pos h5] at h;exact absurd h (show ¬ ((11:Int)=0) by decide)
   ·rw [if_neg h5]
    refine ⟨_,_,rfl,by omega,.inr ⟨h3,rfl,?_,rfl⟩⟩
    unfold ZjE at h4
    cases he:JB (getS ss c.slot) with
    | false => rfl
    | true => rw [he, if_pos rfl] at h4; exact absurd h4 (by decide)
  ·rw [if_pos h4] at h;exact absurd h h4
theorem Zio {core op width:Int} {ss:List Z5} {rs:List Reg} {ms:List Int} {c:Call} : (YI core op width ss rs ms c).2.2≠0→YI core op width ss rs ms c=(WB,[],(YI core op width ss rs ms c).2.2):=by
 unfold YI VW
 repeat' split
 all_goals first
  | (intro h; rfl)
  | (intro h; exact absurd rfl h)
theorem ZjK (rs:List Reg) (b n:Int) (h:0≤YL rs b n):YL rs b n < rs.length:=by
 unfold YL ZbT at h ⊢
 split at h
 ·rw [if_pos ‹_›];omega
 ·omega
theorem Zje {c:Call} (h:c.kind≠1):c.slot∈(Yu c.kind c.slot c.dest c.count):=by
 refine ((Wn c.kind c.slot c.dest c.count).2 _).2 ?_
 unfold JH
 rw [if_neg h]
 split
 ·simp
 ·split<;>simp
theorem ZjJ {core n:Int} {c:Call} (h:wfB core n c=true):(1≤c.kind∧c.kind≤6)∧(c.kind≠1→0≤c.slot∧c.slot < n):=by
 have w:=of_decide_eq_true h
 omega
theorem ZnR (core op reg:Int) (ss:List Z5) (x2 x3 x4 x5 x6:LL) (c:Call) (n:KP) (hl:ss.length=12) (hw:wfB core 12 c=true) (hb:Kv ss c=false) (hc:c.count≤1000) (hp:n.path.length≤20) (hq:WG ⟨⟨core,op,0⟩,c,reg,39,n⟩=true)
  (hk:(c.kind=1∧n=Jo∧reg=YL [⟨0,15,false⟩,⟨32768,15,false⟩,⟨262144,17,false⟩] c.offset c.bits)∨(c.kind≠1∧n=(getS ss c.slot).node∧JB (getS ss c.slot)=false∧reg=YL [⟨0,15,false⟩,⟨32768,15,false⟩,⟨262144,17,false⟩] n.cap.base n.cap.bits)) :
  Ret (fun r=>r=true) (Zlo Z6 core (ss.map Jb) x2 x3 x4 x5 x6 c.kind c.slot c.dest c.core c.mask c.object c.bits c.level c.offset c.count c.index c.addr op (([⟨0,15,false⟩,⟨32768,15,false⟩,⟨262144,17,false⟩] : List Reg).map Za4) core op 0 c.kind c.slot c.dest c.core c.mask c.object c.bits c.level c.offset c.count c.index c.addr reg 39 n.id.core n.id.op n.id.part (Zf n.path) n.cap.kind n.cap.base n.cap.bits n.cap.rights n.cap.width n.cap.level n.cap.device (Zb (Yu c.kind c.slot c.dest c.count)) 0):=by
 have hL:=Wn c.kind c.slot c.dest c.count
 have hlen:=ZdU c hc
 have hR:=Wo (n:=12) (by decide) hw
 have hmem:∀ x∈(Yu c.kind c.slot c.dest c.count),KW (getS ss x)=false:=fun x hx=>by
  have:=List.any_eq_false.1 hb x hx
  simpa using this
 have kin:=ZjJ hw
 generalize hLL:(Yu c.kind c.slot c.dest c.count)=L at *
 refine YT (F:=fun k (_:Unit) z=>Zlo k core (ss.map Jb) x2 x3 x4 x5 x6 c.kind c.slot c.dest c.core c.mask c.object c.bits c.level c.offset c.count c.index c.addr op (([⟨0,15,false⟩,⟨32768,15,false⟩,⟨262144,17,false⟩] : List Reg).map Za4) core op 0 c.kind c.slot c.dest c.core c.mask c.object c.bits c.level c.offset c.count c.index c.addr reg 39 n.id.core n.id.op n.id.part (Zf n.path) n.cap.kind n.cap.base n.cap.bits n.cap.rights n.cap.width n.cap.level n.cap.device (Zb L) z) (n:=L.length) (fun _ _=>True) (by omega) (fun k i _ hi _ ih=>?_) (fun k _ _=>?_) () trivial
 ·refine Z3 (ZhF ..) ?_
  have hr:=hR L[i] (List.getElem_mem hi)
  have hbz:=hmem L[i] (List.getElem_mem hi)
  rw [Jm,if_pos (K1 hi)]
  refine Z3 (Jp hi _) (Zc (fun h=>absurd h (by simp only [CQ];omega)) fun _=>?_)
  refine Z3 (Jp hi _) (Zc (fun h=>absurd h (by simp only [CQ];omega)) fun _=>?_)
  refine Zc (fun h0=>?_) fun h0=>?_
  ·simp only [CQ] at h0
   have e1:iop .sub .i64 (i:Int) 1=((i-1:Nat):Int):=by rw [Zc6 (by omega) (by omega)];omega
   refine Z3 (Jp hi _) ?_
   rw [e1]
   refine Z3 (Jp (show i-1 < L.length by omega) _) ?_
   have ha:=List.pairwise_iff_getElem.1 hL.1 (i-1) i (by omega) hi (by omega)
   refine Zc (fun h=>absurd h (by simp only [CQ];omega)) fun _=>?_
   refine Z3 (Jp hi _) (Z3 (Ys hr.1 (by omega) _) (Ze (s14 _) ?_))
   refine Zc (fun h=>absurd h (by rw [hbz];decide)) fun _=>?_
   rw [Jj (by omega) (by omega)]
   exact ih () trivial
  ·refine Z3 (Jp hi _) (Z3 (Ys hr.1 (by omega) _) (Ze (s14 _) ?_))
   refine Zc (fun h=>absurd h (by rw [hbz];decide)) fun _=>?_
   rw [Jj (by omega) (by omega)]
   exact ih () trivial
 ·refine Z3 (ZhF ..) ?_
  rw [Jm,if_neg (KZ (Nat.le_refl _))]
  refine Zc (fun h=>?_) fun h=>?_
  ·simp only [CQ] at h
   obtain ⟨_,hn,he,hreg⟩:=hk.resolve_left fun q=>h q.1
   have hs:=kin.2 h
   refine Z3 (Ys hs.1 (by omega) _) ?_
   rw [← hLL] at *
   subst hn
   refine Ze (ZgU (getS ss c.slot).node (by omega)) (Zc (fun h=>absurd h (by decide)) fun _=>?_)
   refine Ze (s16 (Yu c.kind c.slot c.dest c.count) (by omega) c.slot) (Zc (fun h2=>?_) fun _=>?_)
   ·have:(Yu c.kind c.slot c.dest c.count).any (fun x=>decide (c.slot=x))=true:=List.any_eq_true.2 ⟨c.slot,Zje h,decide_eq_true rfl⟩
    rw [this] at h2;exact absurd h2 (by decide)
   refine Ze (s17 ..) (Ze (s18 ⟨⟨core,op,0⟩,c,reg,39,(getS ss c.slot).node⟩ (by simp only;omega)) ?_)
   refine Zc (fun _=>?_) fun h=>absurd hq h
   refine Zc (fun _=>?_) fun h=>absurd (by simp [cop]) h
   refine Zc (fun _=>?_) fun h=>absurd (by simp [cop]) h
   refine Zc (fun _=>?_) fun h=>absurd (by simp [cop]) h
   refine Ze (s19 [⟨0,15,false⟩,⟨32768,15,false⟩,⟨262144,17,false⟩] (by decide) _ _) ?_
   exact Zc (fun _=>Ze s5 (Zg rfl)) fun h=>absurd (by rw [← hreg];simp [cop]) h
  ·simp only [CQ] at h
   obtain ⟨_,hn,hreg⟩:=hk.resolve_right fun q=>h q.1
   refine Ze (s18 ⟨⟨core,op,0⟩,c,reg,39,n⟩ (by simp only;omega)) ?_
   refine Zc (fun _=>?_) fun h=>absurd hq h
   refine Zc (fun _=>?_) fun h=>absurd (by simp [cop]) h
   refine Zc (fun _=>?_) fun h=>absurd (by simp [cop]) h
   refine Zc (fun _=>?_) fun h=>absurd (by simp [cop]) h
   refine Ze (s19 [⟨0,15,false⟩,⟨32768,15,false⟩,⟨262144,17,false⟩] (by decide) _ _) ?_
   exact Zc (fun _=>Ze s5 (Zg rfl)) fun h=>absurd (by rw [← hreg];simp [cop]) h
theorem ZhJ {f:List ZL} {k:Nat} (hf:FOk f k) {ss:List Z5} (h:ZfE f ss) {i:Int} (h0:0≤i) (h1:i < 12) (he:JB (getS ss i)=false):JO (getS ss i).node=true:=by
 have hj:i.toNat < ss.length:=by have:=h.len;omega
 have e:getS ss i=ss[i.toNat]:=by simp [getS,hj]
 rw [e] at he ⊢
 rcases (h.spot i.toNat hj).2 with ⟨hn,_⟩ | ⟨x,hx,_,hn,_⟩
 ·rw [JB,hn] at he;exact absurd he (by decide)
 ·rw [hn];exact (hf.all x hx).ok
theorem s3 (l:List Int) (st:List Zj4) (hst:st.length < 2^63) (k o w0 w1 w2 w3 w4 w5 w6 w7 w8:Int):g3 (Zb l) (st.map Y3) k o w0 w1 w2 w3 w4 w5 w6 w7 w8=some true:=by
 suffices h:Ret (fun r=>r=true) (g3 (Zb l) (st.map Y3) k o w0 w1 w2 w3 w4 w5 w6 w7 w8) by
  obtain ⟨r,e,rfl⟩:=h
  exact e
 rw [Zoh]
 refine Zc (fun _=>Ze s5 (Zg rfl)) fun _=>?_
 refine Za (place k 4 (by decide) (by decide)) fun core hcore=>Za (s8 st hst) fun r ⟨m,hf,e⟩=>?_
 subst e
 refine Za (s7 l m 30 hf (by decide) core) fun r ⟨s,e,hs,_⟩=>?_
 subst e
 refine Za (s9 []) fun r ⟨n,p,ws,rs,os,e,hw1,hw2,hr1,hr2⟩=>?_
 subst e
 refine Za (s10 ws n rs (Zb os) core w0 w1 w2 w3 w4 w5 w6 w7 w8 hw1 hw2 hr1 hr2) fun r ⟨c,e,hc⟩=>?_
 subst e
 refine Za (place o 1000 (by decide) (by decide)) fun v hv=>?_
 have fs:=hs.few hf
 have hl:=hs.slots.len
 rw [show iop .add .i64 1 v=1+v from Jj (by omega) (by omega)]
 refine Ze (s12 s.slots fs) (Ze (s11 core (1+v) 39 s.slots [⟨0,15,false⟩,⟨32768,15,false⟩,⟨262144,17,false⟩] [0,1,2,3] c fs (by decide) (by decide) hc) ?_)
 by_cases he:(YI core (1+v) 39 s.slots [⟨0,15,false⟩,⟨32768,15,false⟩,⟨262144,17,false⟩] [0,1,2,3] c).2.2=0
 ·obtain ⟨ha,hb,reg,n,e,h0,hk⟩:=Zko he
  have ha:=(Bool.and_eq_true _ _ ▸ ha:_∧_)
  have ha1:=of_decide_eq_true ha.1
  have ha2:=ha.2
  rw [hl] at ha2
  have kin:=ZjJ ha2
  have hn:n.path.length≤20:=by
   rcases hk with h | h
   ·rw [h.2.1];exact Nat.zero_le _
   ·rw [h.2.1];exact Zho fs _
  have hreg:reg < 3:=by
   rcases hk with h | h
   ·have:=ZjK [⟨0,15,false⟩,⟨32768,15,false⟩,⟨262144,17,false⟩] c.offset c.bits (by omega);simp at this;omega
   ·have:=ZjK [⟨0,15,false⟩,⟨32768,15,false⟩,⟨262144,17,false⟩] n.cap.base n.cap.bits (by omega);simp at this;omega
  have hq:WG ⟨⟨core,1+v,0⟩,c,reg,39,n⟩=true:=by
   have hsrc:(if c.kind=1 then W8 n Jo else JO n)=true:=by
    rcases hk with h | h
    ·rw [if_pos h.1,h.2.1];exact Zeh
    ·rw [if_neg h.1,h.2.1]
     have hs2:=kin.2 h.1
     exact ZhJ hf hs.slots hs2.1 hs2.2 h.2.2.1
   have kk:=kin.1
   simp only [WG,ZfS,Zc3,ZcS,Bool.and_eq_true,decide_eq_true_eq,hsrc,and_true]
   simp
   omega
  rw [e]
  refine Zc (fun h=>absurd h (show ¬ (cop .neq (0:Int) 0=true) by decide)) fun _=>?_
  exact ZnR core (1+v) reg s.slots _ _ _ _ _ c n hl ha2 hb hc hn hq hk
 ·have e:=Zio he
  generalize YI core (1+v) 39 s.slots [⟨0,15,false⟩,⟨32768,15,false⟩,⟨262144,17,false⟩] [0,1,2,3] c=p at he e
  obtain ⟨r,l',z⟩:=p
  simp only [Prod.mk.injEq] at e he
  obtain ⟨rfl,rfl,_⟩:=e
  refine Zc (fun _=>?_) fun h=>absurd (show cop .neq z 0=true by simp [cop,he]) h
  refine Zc (fun _=>?_) fun h=>absurd rfl h
  refine Ze (s13 WB WB (by decide) (by decide)) ?_
  rw [Zga]
  exact Zc (fun _=>Ze s5 (Zg rfl)) fun h=>absurd rfl h
def Zk0 (z:Int) (s:Z5):Z5:={ s with op:=z }
theorem ZkW (acc:List Z5) (i:Nat) (z:Int):Zy (acc.map Jb) i 11 [I z]=(acc.modify i (Zk0 z)).map Jb:=VU Jb (Zk0 z) acc i 11 _ fun _ _=>rfl
theorem Y7 {ss:List Z5} (h:Zhi ss) (i:Nat) (g:Z5→Z5) (hg:∀ s,(g s).node=s.node):Zhi (ss.modify i g):=by
 refine ⟨by rw [List.length_modify];exact h.1,fun s hs=>?_⟩
 obtain ⟨t,ht,rfl⟩:=List.getElem_of_mem hs
 rw [List.getElem_modify]
 rw [List.length_modify] at ht
 split
 ·rw [hg];exact h.2 _ (List.getElem_mem ht)
 ·exact h.2 _ (List.getElem_mem ht)
theorem ZgP (ss:List Z5) (i:Nat) (g:Z5→Z5) (hg:∀ s,(g s).node=s.node):(ss.modify i g).map (·.node)=ss.map (·.node):=by
 refine List.ext_getElem (by simp) fun t h1 h2=>?_
 simp only [List.getElem_map,List.getElem_modify]
 split
 ·exact hg _
 ·rfl
theorem Zdh (ss:List Z5) (i:Int):(getS ss i).node=((ss.map (·.node))[i.toNat]?).getD Jo:=by
 unfold getS
 rw [List.getElem?_map]
 cases ss[i.toNat]? <;> rfl
theorem ZcH (ss:List Z5) (d c:Int):Zcm ss d c=(((ss.map (·.node)).drop d.toNat).take c.toNat).any fun n=>!decide (n.id=zid):=by
 unfold Zcm ZmL
 rw [← List.map_drop,← List.map_take,List.any_map]
 rfl
theorem ZdV (core op width:Int) {ss ss':List Z5} (rs:List Reg) (ms:List Int) (c:Call) (h:ss'.map (·.node)=ss.map (·.node)):VW core op width ss' rs ms c=VW core op width ss rs ms c:=by
 have hf:∀ d n,Zcm ss' d n=Zcm ss d n:=fun d n=>by rw [ZcH,ZcH,h]
 have hg:∀ i,(getS ss' i).node=(getS ss i).node:=fun i=>by rw [Zdh,Zdh,h]
 have he:∀ i,JB (getS ss' i)=JB (getS ss i):=fun i=>by unfold JB;rw [hg]
 have hd:∀ n,Zlm width ss' ms n c=Zlm width ss ms n c:=fun n=>by unfold Zlm;simp only [hf]
 unfold VW Kd ZjE
 simp only [hf,hg,he,hd]
theorem Zf1 (ss:List Z5) (rs:List Reg) (c:Call):Kd ss rs c≠4:=by
 unfold Kd
 repeat' split
 all_goals decide
theorem Zkr (c:Cap) (obj bits level width off cnt:Int):Yt c obj bits level width off cnt≠4:=by
 unfold Yt
 repeat' split
 all_goals decide
theorem Ziw (width:Int) (ss:List Z5) (ms:List Int) (s:Z5) (c:Call):ZjE width ss ms s c≠4:=by
 unfold ZjE Zlm
 repeat' split
 all_goals first
  | decide
  | exact Zkr _ _ _ _ _ _ _
theorem ZfK (core op width:Int) (ss:List Z5) (rs:List Reg) (ms:List Int) (c:Call):(VW core op width ss rs ms c).2.2≠4:=by
 unfold VW
 by_cases h1:c.kind=1
 ·rw [if_pos h1]
  split
  ·exact Zf1 ss rs c
  ·exact (show (0:Int)≠4 by decide)
 ·rw [if_neg h1]
  split
  ·exact Ziw width ss ms (getS ss c.slot) c
  ·split
   ·exact (show (11:Int)≠4 by decide)
   ·exact (show (0:Int)≠4 by decide)
theorem Zjn (ss:List Z5) (i:Int) (g:Z5→Z5) (h0:0≤i) (h:i < ss.length):getS (ss.modify i.toNat g) i=g (getS ss i):=by
 have hj:i.toNat < ss.length:=by omega
 simp [getS,hj,List.getElem?_modify]
theorem ZfI (ss:List Z5) (i t:Int) (g:Z5→Z5) (h0:0≤i) (ht:0≤t) (h:i≠t):getS (ss.modify t.toNat g) i=getS ss i:=by
 have:t.toNat≠i.toNat:=by omega
 simp [getS,List.getElem?_modify,this]
theorem W4 {ss:List Z5} (h:∀ s∈ss,s.op=0∧s.lock=zid) (i:Int):KW (getS ss i)=false:=by
 have e:(getS ss i).op=0∧(getS ss i).lock=zid:=by
  unfold getS
  cases e:ss[i.toNat]? with
  | none => exact ⟨rfl, rfl⟩
  | some s => exact h s (List.mem_of_getElem? e)
 unfold KW
 rw [e.1,e.2];rfl
theorem Zo2 {core k i j:Int} (hc:0≤core∧core < 4) (hk:1≤k∧k≤6) (hi:0≤i∧i < 12) (hj:0≤j∧j < 12) {c4:Int} (h4:c4=(core+1) % 4):ZaS core 9 32 12 ⟨k,i,j,c4,0,2,12,0,262144,1,0,0⟩=true:=by
 unfold ZaS wfB
 simp only [Bool.and_eq_true,decide_eq_true_eq]
 have h5:c4≠core:=by omega
 have h6:0≤c4∧c4 < 32:=by omega
 clear h4
 refine ⟨by simp;omega,?_⟩
 rcases (by omega:k=1∨k=2∨k=3∨k=4∨k=5∨k=6) with rfl | rfl | rfl | rfl | rfl | rfl
 ·exact .inl (by omega)
 ·exact .inr (.inl (by omega))
 ·exact .inr (.inr (.inl (by omega)))
 ·exact .inr (.inr (.inr (.inl (by omega))))
 ·exact .inr (.inr (.inr (.inr (by omega))))
 ·exact .inr (.inr (.inr (.inr (by omega))))
theorem Zjj {core k i j c4:Int} (hc:0≤core∧core < 4) (hk:1≤k∧k≤6) (hi:0≤i∧i < 12) (hj:0≤j∧j < 12) (h4:c4=(core+1) % 4) (ss:List Z5) (hl:ss.length=12) :
  (YI core 9 32 ss awR [0,1,2,3] ⟨k,i,j,c4,0,2,12,0,262144,1,0,0⟩)=if Kv ss ⟨k,i,j,c4,0,2,12,0,262144,1,0,0⟩=true then (WB,[],4) else VW core 9 32 ss awR [0,1,2,3] ⟨k,i,j,c4,0,2,12,0,262144,1,0,0⟩:=by
 unfold YI
 rw [hl,if_neg (show ¬ ZaS core 9 32 ((12:Nat):Int) ⟨k,i,j,c4,0,2,12,0,262144,1,0,0⟩=false by rw [show ((12:Nat):Int)=12 from rfl,Zo2 hc hk hi hj h4];decide)]
theorem Zpx {k i j c4 x:Int} (hi:0≤i∧i < 12) (hj:0≤j∧j < 12) (hx:x∈Yu k i j 1):x=i∨x=j:=by
 have hx:=((Wn k i j 1).2 x).1 hx
 unfold JH at hx
 split at hx
 ·simp at hx;exact .inr hx
 ·split at hx
  ·rcases List.mem_cons.1 hx with a | a
   ·exact .inl a
   ·obtain ⟨q,hq,rfl⟩:=List.mem_map.1 a
    have hq:=List.mem_range.1 hq
    have:q=0:=by simp at hq;omega
    subst this
    exact .inr (by rw [Jj (by simp;omega) (by simp;omega)];simp)
  ·split at hx
   ·simp at hx;exact hx
   ·simp at hx;exact .inl hx
theorem Zn1 {k i j:Int} : (if k=1 then j else i)∈Yu k i j 1:=by
 refine ((Wn k i j 1).2 _).2 ?_
 unfold JH
 by_cases h:k=1
 ·simp [h]
 ·rw [if_neg h,if_neg h]
  split
  ·simp
  ·split<;>simp
theorem ZnH {core k i j c4:Int} (hc:0≤core∧core < 4) (hk:1≤k∧k≤6) (hi:0≤i∧i < 12) (hj:0≤j∧j < 12) (h4:c4=(core+1) % 4) (ss:List Z5) (hl:ss.length=12) (u:Int) (hu:u=if k=1 then j else i) (g:Z5→Z5) (hg:∀ s,KW (g s)=true) :
  ((YI core 9 32 (ss.modify u.toNat g) awR [0,1,2,3] ⟨k,i,j,c4,0,2,12,0,262144,1,0,0⟩)).2.2=4:=by
 rw [Zjj hc hk hi hj h4 _ (by rw [List.length_modify];exact hl)]
 have hur:0≤u∧u < 12:=by rw [hu];split<;>assumption
 have hb:Kv (ss.modify u.toNat g) ⟨k,i,j,c4,0,2,12,0,262144,1,0,0⟩=true:=by
  unfold Kv
  refine List.any_eq_true.2 ⟨u,?_,?_⟩
  ·rw [hu];exact Zn1
  ·rw [Zjn ss u g hur.1 (by omega)];exact hg _
 rw [if_pos hb]
theorem Zn8 {core k i j c4:Int} (hc:0≤core∧core < 4) (hk:1≤k∧k≤6) (hi:0≤i∧i < 12) (hj:0≤j∧j < 12) (h4:c4=(core+1) % 4) {ss:List Z5} (hl:ss.length=12) (hs:∀ s∈ss,s.op=0∧s.lock=zid) (t:Int) (ht:0≤t) (hti:t≠i) (htj:t≠j) (g:Z5→Z5) (hg:∀ s,(g s).node=s.node) :
  (YI core 9 32 (ss.modify t.toNat g) awR [0,1,2,3] ⟨k,i,j,c4,0,2,12,0,262144,1,0,0⟩)=(YI core 9 32 ss awR [0,1,2,3] ⟨k,i,j,c4,0,2,12,0,262144,1,0,0⟩):=by
 rw [Zjj hc hk hi hj h4 _ (by rw [List.length_modify];exact hl),Zjj hc hk hi hj h4 ss hl]
 have hb:Kv (ss.modify t.toNat g) ⟨k,i,j,c4,0,2,12,0,262144,1,0,0⟩=false:=by
  unfold Kv
  refine List.any_eq_false.2 fun x hx=>?_
  have hx':=Zpx (c4:=c4) hi hj hx
  rw [ZfI ss x t g (by omega) ht (by omega),W4 hs];decide
 have hb0:Kv ss ⟨k,i,j,c4,0,2,12,0,262144,1,0,0⟩=false:=by
  unfold Kv
  refine List.any_eq_false.2 fun x hx=>?_
  rw [W4 hs];decide
 rw [if_neg (by rw [hb];decide),if_neg (by rw [hb0];decide)]
 exact ZdV _ _ _ _ _ _ (ZgP ss t.toNat g hg)
theorem Ww:g21=some (awR.map Za4):=ZjW
theorem Ziz {core k i j c4:Int} (hc:0≤core∧core < 4) (hk:1≤k∧k≤6) (hi:0≤i∧i < 12) (hj:0≤j∧j < 12) (h4:c4=(core+1) % 4) {ss:List Z5} (fs:Zhi ss) (hl:ss.length=12) (hs:∀ s∈ss,s.op=0∧s.lock=zid) (p0:Req×List Int×Int) (hp:p0=(YI core 9 32 ss awR [0,1,2,3] ⟨k,i,j,c4,0,2,12,0,262144,1,0,0⟩)) (q:Qt1) (hq:(d4 (d8 (d16 q))).2=4) :
    Ret (fun r=>r=true) (
 (g12 (ss.map Jb)).bind fun (r77:LL)=>
 Zj ((12:Int)≠0)<|
 if (cop .neq (iop .rem .i64 (iop .add .i64 (iop .max .i64 i j) 1) 12) i)=true then
 if (cop .neq (iop .rem .i64 (iop .add .i64 (iop .max .i64 i j) 1) 12) j)=true then
 Zj ((0:Int)≤(iop .rem .i64 (iop .add .i64 (iop .max .i64 i j) 1) 12))<|
 Zj (((iop .rem .i64 (iop .add .i64 (iop .max .i64 i j) 1) 12):Int) < (List.length r77:Int))<|
 Zj ((0:Int)≤(iop .rem .i64 (iop .add .i64 (iop .max .i64 i j) 1) 12))<|
 Zj (((iop .rem .i64 (iop .add .i64 (iop .max .i64 i j) 1) 12):Int) < (List.length r77:Int))<|
 (g21).bind fun (r78:LL)=>
 (g11 core 9 32 (Zy r77 (Int.toNat (iop .rem .i64 (iop .add .i64 (iop .max .i64 i j) 1) 12)) 11 [AV.val (.int .i64 3)]) r78 ((((E0++[[AV.val (.int .i64 0)]])++[[AV.val (.int .i64 1)]])++[[AV.val (.int .i64 2)]])++[[AV.val (.int .i64 3)]]) k i j c4 0 2 12 0 262144 1 0 0).bind fun (r79:Qt1)=>
 if (cop .eql (d4 (d8 (d16 q))).2 4)=true then
 if (cop .eql (d4 (d8 (d16 r79))).2 (d4 (d8 (d16 (Yy p0)))).2)=true then
 (g5).bind fun (r109:Bool)=>
 some (r109)
 else
 some (false)
 else
 some (false)
 else
 (g21).bind fun (r78:LL)=>
 (g11 core 9 32 r77 r78 ((((E0++[[AV.val (.int .i64 0)]])++[[AV.val (.int .i64 1)]])++[[AV.val (.int .i64 2)]])++[[AV.val (.int .i64 3)]]) k i j c4 0 2 12 0 262144 1 0 0).bind fun (r79:Qt1)=>
 if (cop .eql (d4 (d8 (d16 q))).2 4)=true then
 if (cop .eql (d4 (d8 (d16 r79))).2 (d4 (d8 (d16 (Yy p0)))).2)=true then
 (g5).bind fun (r109:Bool)=>
 some (r109)
 else
 some (false)
 else
 some (false)
 else
 (g21).bind fun (r78:LL)=>
 (g11 core 9 32 r77 r78 ((((E0++[[AV.val (.int .i64 0)]])++[[AV.val (.int .i64 1)]])++[[AV.val (.int .i64 2)]])++[[AV.val (.int .i64 3)]]) k i j c4 0 2 12 0 262144 1 0 0).bind fun (r79:Qt1)=>
 if (cop .eql (d4 (d8 (d16 q))).2 4)=true then
 if (cop .eql (d4 (d8 (d16 r79))).2 (d4 (d8 (d16 (Yy p0)))).2)=true then
 (g5).bind fun (r109:Bool)=>
 some (r109)
 else
 some (false)
 else
 some (false)):=by
  have m0:iop .max .i64 i j=max i j:=rfl
  have m1:iop .add .i64 (max i j) 1=max i j+1:=Jj (by omega) (by omega)
  have m2:iop .rem .i64 (max i j+1) 12=(max i j+1).tmod 12:=rfl
  rw [m0,m1,m2]
  generalize ht:(max i j+1).tmod 12=t
  have t0:0≤t∧t < 12:=by rw [← ht,Int.tmod_eq_emod_of_nonneg (by omega)];omega
  have fin:∀ p2:Req×List Int×Int,p2=p0→Ret (fun r=>r=true) (if (cop .eql (d4 (d8 (d16 q))).2 4)=true then if (cop .eql (d4 (d8 (d16 (Yy p2)))).2 (d4 (d8 (d16 (Yy p0)))).2)=true then (g5).bind fun (r109:Bool)=>some (r109) else some (false) else some (false)):=by
    rintro p2 rfl
    refine Zc (fun _=>?_) fun h=>absurd (by rw [hq];decide) h
    exact Zc (fun _=>Ze s5 (Zg rfl)) fun h=>absurd (by simp [cop]) h
  refine Ze (s12 ss fs) (Zd (by decide) ?_)
  have plain:(YI core 9 32 ss awR [0,1,2,3] ⟨k,i,j,c4,0,2,12,0,262144,1,0,0⟩)=p0:=hp.symm
  refine Zc (fun h1=>?_) fun h1=>?_
  · refine Zc (fun h2=>?_) fun h2=>?_
    · simp only [CQ] at h1 h2
      refine Zd t0.1 (Zd (by simp;omega) (Zd t0.1 (Zd (by simp;omega) ?_)))
      rw [ZkW]
      refine Ze Ww (Ze (s11 core 9 32 (ss.modify t.toNat (Zk0 3)) awR [0,1,2,3] ⟨k,i,j,c4,0,2,12,0,262144,1,0,0⟩ (Y7 fs _ _ fun _=>rfl) (by decide) (by decide) (show (1:Int)≤1000 by decide)) ?_)
      exact fin _ ((Zn8 hc hk hi hj h4 hl hs t t0.1 h1 h2 (Zk0 3) fun _=>rfl).trans plain)
    · exact Ze Ww (Ze (s11 core 9 32 ss awR [0,1,2,3] ⟨k,i,j,c4,0,2,12,0,262144,1,0,0⟩ fs (by decide) (by decide) (show (1:Int)≤1000 by decide)) (fin _ plain))
  · exact Ze Ww (Ze (s11 core 9 32 ss awR [0,1,2,3] ⟨k,i,j,c4,0,2,12,0,262144,1,0,0⟩ fs (by decide) (by decide) (show (1:Int)≤1000 by decide)) (fin _ plain))
theorem s4 (st:List Zj4) (hst:st.length < 2^63) (a b d e:Int) (lk:Bool):g4 (st.map Y3) a b d e lk=some true:=by
 suffices h:Ret (fun r=>r=true) (g4 (st.map Y3) a b d e lk) by
  obtain ⟨r,e,rfl⟩:=h
  exact e
 rw [ZnU]
 refine Za (place a 4 (by decide) (by decide)) fun core hc=>Za (s8 st hst) fun r ⟨m,hf,e⟩=>?_
 subst e
 refine Za (s20 m 30 (by decide) hf core) fun r ⟨ss,hS,e⟩=>?_
 subst e
 refine Za (place b 12 (by decide) (by decide)) fun i hi=>Za (place d 12 (by decide) (by decide)) fun j hj=>Za (place e 6 (by decide) (by decide)) fun v hv=>?_
 have fs:=hS.few hf
 have hl:=hS.len
 have hs:∀ s∈ss,s.op=0∧s.lock=zid:=fun s h=>⟨(hS.all s h).1,(hS.all s h).2.1⟩
 have ek:iop .add .i64 1 v=1+v:=Jj (by omega) (by omega)
 have e4:iop .rem .i64 (iop .add .i64 core 1) 4=(core+1) % 4:=by
  rw [Jj (by omega) (by omega)]
  exact Int.tmod_eq_emod_of_nonneg (by omega)
 rw [ek,e4]
 generalize hk':1+v=k
 have hk:1≤k∧k≤6:=by omega
 generalize h4:(core+1) % 4=c4
 have h4:=h4.symm
 refine Zd (by decide) (Ze (s12 ss fs) (Ze Ww (Ze (s11 core 9 32 ss awR [0,1,2,3] ⟨k,i,j,c4,0,2,12,0,262144,1,0,0⟩ fs (by decide) (by decide) (show (1:Int)≤1000 by decide)) ?_)))
 generalize hp:(YI core 9 32 ss awR [0,1,2,3] ⟨k,i,j,c4,0,2,12,0,262144,1,0,0⟩)=p0
 have h0:p0.2.2≠4:=by
  rw [← hp,Zjj hc hk hi hj h4 ss hl]
  have hb0:Kv ss ⟨k,i,j,c4,0,2,12,0,262144,1,0,0⟩=false:=by
   unfold Kv
   refine List.any_eq_false.2 fun x hx=>?_
   rw [W4 hs];decide
  rw [if_neg (by rw [hb0];decide)]
  exact ZfK _ _ _ _ _ _ _
 refine Zc (fun h=>absurd h (show ¬ (cop .eql p0.2.2 4=true) by simp only [CQ];exact h0)) fun _=>?_
 have lkb:∀ s,KW (Zew ⟨0,3,0⟩ s)=true:=fun s=>by
  unfold KW
  split
  ·rfl
  ·rfl
 have opb:∀ s,KW (Zk0 3 s)=true:=fun s=>rfl
 refine Zc (fun h1=>?_) fun h1=>?_
 ·simp only [CQ] at h1
  refine Ze (s12 ss fs) ?_
  refine Zc (fun _=>?_) fun _=>?_
  ·refine Zd hj.1 (Zd (by simp;omega) (Zd hj.1 (Zd (by simp;omega) ?_)))
   refine Ze ((congrArg g12 (Zh0 ss j.toNat ⟨0,3,0⟩)).trans (s12 _ (Y7 fs _ _ fun _=>rfl))) (Ze Ww (Ze (s11 core 9 32 (ss.modify j.toNat (Zew ⟨0,3,0⟩)) awR [0,1,2,3] ⟨k,i,j,c4,0,2,12,0,262144,1,0,0⟩ (Y7 fs _ _ fun _=>rfl) (by decide) (by decide) (show (1:Int)≤1000 by decide)) ?_))
   exact Ziz hc hk hi hj h4 fs hl hs p0 hp.symm _ (ZnH hc hk hi hj h4 ss hl j (if_pos h1).symm _ lkb)
  ·refine Zd hj.1 (Zd (by simp;omega) (Zd hj.1 (Zd (by simp;omega) ?_)))
   refine Ze ((congrArg g12 (ZkW ss j.toNat 3)).trans (s12 _ (Y7 fs _ _ fun _=>rfl))) (Ze Ww (Ze (s11 core 9 32 (ss.modify j.toNat (Zk0 3)) awR [0,1,2,3] ⟨k,i,j,c4,0,2,12,0,262144,1,0,0⟩ (Y7 fs _ _ fun _=>rfl) (by decide) (by decide) (show (1:Int)≤1000 by decide)) ?_))
   exact Ziz hc hk hi hj h4 fs hl hs p0 hp.symm _ (ZnH hc hk hi hj h4 ss hl j (if_pos h1).symm _ opb)
 ·simp only [CQ] at h1
  refine Ze (s12 ss fs) ?_
  refine Zc (fun _=>?_) fun _=>?_
  ·refine Zd hi.1 (Zd (by simp;omega) (Zd hi.1 (Zd (by simp;omega) ?_)))
   refine Ze ((congrArg g12 (Zh0 ss i.toNat ⟨0,3,0⟩)).trans (s12 _ (Y7 fs _ _ fun _=>rfl))) (Ze Ww (Ze (s11 core 9 32 (ss.modify i.toNat (Zew ⟨0,3,0⟩)) awR [0,1,2,3] ⟨k,i,j,c4,0,2,12,0,262144,1,0,0⟩ (Y7 fs _ _ fun _=>rfl) (by decide) (by decide) (show (1:Int)≤1000 by decide)) ?_))
   exact Ziz hc hk hi hj h4 fs hl hs p0 hp.symm _ (ZnH hc hk hi hj h4 ss hl i (if_neg h1).symm _ lkb)
  ·refine Zd hi.1 (Zd (by simp;omega) (Zd hi.1 (Zd (by simp;omega) ?_)))
   refine Ze ((congrArg g12 (ZkW ss i.toNat 3)).trans (s12 _ (Y7 fs _ _ fun _=>rfl))) (Ze Ww (Ze (s11 core 9 32 (ss.modify i.toNat (Zk0 3)) awR [0,1,2,3] ⟨k,i,j,c4,0,2,12,0,262144,1,0,0⟩ (Y7 fs _ _ fun _=>rfl) (by decide) (by decide) (show (1:Int)≤1000 by decide)) ?_))
   exact Ziz hc hk hi hj h4 fs hl hs p0 hp.symm _ (ZnH hc hk hi hj h4 ss hl i (if_neg h1).symm _ opb)
end Go.Proofs.Ytmjkdbpffdampaa
end
