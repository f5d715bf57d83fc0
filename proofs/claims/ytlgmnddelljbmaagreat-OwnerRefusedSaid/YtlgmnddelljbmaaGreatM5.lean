/- EndU, U11a, U11b, U12a, U12d, U18a, U18b, U18c, U18d, U18e, U24a, U24c, U24d, UL23d, UJ11a, UJ11b, UL23f, UL23g, UN12a, Ua, Ub, Uc, Ud, Ue: texts of the proof, put together. -/
import Derived.Test.YtlgmnddelljbmaaGreatRows
import Derived.Test.YtlgmnddelljbmaaGreatChecked
import Derived.Test.YtlgmnddelljbmaaGreatM4
import Derived.JoinedOf
import Derived.JoinedAt
import Derived.RowKit3
import Derived.KernelRfl
import Derived.Test.YtlgmnddelljbmaaGreatFUi
import Derived.Test.YtlgmnddelljbmaaGreatBUh

section
namespace Go.Proofs.YtlgmnddelljbmaaGreat
open Go Go.AM
set_option maxRecDepth 100000
theorem behind : ∃ ws, behindMainWord (wordsSigns Tryz.prog.initOrder.toList) = "cut".toList :: ws := by
 have h:Tryz.prog.initOrder.toList=_:=String.toList_ofList (l:=_)
 rw [h]
 exact ZdQ (by kernel_rfl) (by kernel_rfl) (by kernel_rfl) (by kernel_rfl) (by kernel_rfl) (by kernel_rfl)
theorem ZnQ:Tryz.prog.mayEnter=true:=behind.elim fun _ h=>Go.AM.enters_of h (by kernel_rfl) (by kernel_rfl) (by kernel_rfl)
theorem Zqa:Tryz.prog.liftsFinal=false:=behind.elim fun _ h=>Go.AM.final_of h
theorem Znu:Tryz.prog.make=some .cut:=behind.elim fun _ h=>Go.AM.make_of h
theorem Zsq:laidOutB Tryz.prog=true:=by kernel_rfl
theorem Zhd:ownKnob Tryz.prog.godebug=none:=by kernel_rfl
theorem VT {d:Nat} {cs:List AV} (h:TyR Tryz.prog (d+1) 3 cs):∃ z,cs = [I z]:=by
 simp only [TyR,Tryz.underlying3] at h
 obtain ⟨z,h,_⟩:=h
 exact ⟨z,h⟩
theorem Zib {d:Nat} {cs:List AV} (h:TyR Tryz.prog (d+1) 4 cs):∃ z,cs = [B z]:=by
 simp only [TyR,Tryz.underlying4] at h
 exact h
theorem arg_int {x:AV} (h:Za8 Tryz.prog 12 3 x):∃ z,x=I z:=by
 simp only [Za8,Tryz.underlying3] at h
 obtain ⟨z,hz⟩:=VT h.2
 exact ⟨z,by simpa using hz⟩
def Zhb (z:Int):List AV:=[I z]
def ZfH (l:List Int):List (List AV):=l.map Zhb
structure Id where
 core:Int
 op:Int
 part:Int
 deriving DecidableEq
def idc (i:Id):List AV:=[I i.core,I i.op,I i.part]
def Zc (l:List Id):List (List AV):=l.map idc
theorem Zd9 {α β:Type} {f:α→β} {p:α→Prop} : ∀ (xs:List β),(∀ x∈xs,∃ a,x=f a∧p a)→∃ l:List α,xs=l.map f∧∀ a∈l,p a
 | [], _ => ⟨[], rfl, by simp⟩
 | x :: xs, h => by
  obtain ⟨a,h1,h2⟩:=h x (by simp)
  obtain ⟨l,h3,h4⟩:=Zd9 xs fun y hy=>h y (by simp [hy])
  refine ⟨a::l,by rw [h1,h3];rfl,fun b hb=>?_⟩
  rcases List.mem_cons.1 hb with rfl | hb
  ·exact h2
  ·exact h4 b hb
def Zlz:List TypeId:=[3,4,52,22]
theorem ZqX (t:TypeId) (h:Zlz.contains t=true):WI Tryz.prog 12 t=true∧t < Tryz.prog.types.size∧Tryz.prog.readableRec t=true:=by
 have h2:Zlz.all (fun t=>WI Tryz.prog 12 t&&decide (t < Tryz.prog.types.size)&&Tryz.prog.readableRec t)=true:=by kernel_rfl
 rw [List.all_eq_true] at h2
 have:=h2 t (by simpa using h)
 simpa [and_assoc] using this
end Go.Proofs.YtlgmnddelljbmaaGreat
end

section
namespace Go.Proofs.YtlgmnddelljbmaaGreat
open Go Go.AM
set_option linter.unusedSimpArgs false
set_option linter.unusedVariables false
set_option maxRecDepth 100000
def Kx (k b:Int):Bool:=decide ((k=1∧6≤b∧b≤40)∨(k=2∧12≤b∧b≤40)∨(k=3∧b=12)∨(k=4∧b=6)∨(k=5∧b=10)∨(k=6∧b=16))
theorem Zsw (k b:Int):Zp6 k b=some (Kx k b):=by
 rw [ZlP]
 repeat' split
 all_goals (refine congrArg some ?_;rw [Z2];simp only [Kx,CQ] at *; omega)
def ZeC (k:Int):Int:=if k=3 then 12 else if k=4 then 6 else if k=5 then 10 else if k=6 then 16 else 0
theorem ZsE (k:Int):Zpp k=some (ZeC k):=by
 rw [Zks]
 simp only [CQ,ZeC]
 repeat' split
 all_goals first | rfl | omega
theorem ZrM (k b:Int):ZoZ k b=some (Kx k b):=by
 rw [ZlZ]
 simp only [ZsE,Option.bind_some]
 repeat' split
 all_goals (refine congrArg some ?_;rw [Z2];simp only [Kx,CQ] at *; first | omega | (rcases (by omega:k=3∨k=4∨k=5∨k=6) with rfl | rfl | rfl | rfl<;>simp [ZeC]))
def ZaQ (w l:Int):Bool:=decide ((w=32∧0≤l∧l≤1)∨(w=39∧0≤l∧l≤2))
theorem Zs3 (w l:Int):Zqk w l=some (ZaQ w l):=by
 rw [Zk3]
 repeat' split
 all_goals (refine congrArg some ?_;rw [Z2];simp only [ZaQ,CQ] at *; omega)
theorem ZrP (w l:Int):Zox w l=some (ZaQ w l):=by
 rw [ZlN]
 repeat' split
 all_goals (refine congrArg some ?_;rw [Z2];simp only [ZaQ,CQ] at *; omega)
def YP (a b:Int):Bool:=decide (6≤b∧b≤40∧0≤a∧a % 2^b.toNat=0∧a+2^b.toNat≤1099511627776)
theorem ZfR {b:Int} (h:b≤40):(2:Int)^b.toNat≤1099511627776:=by
 have:=Zg4 (m:=b.toNat) (n:=40) (by omega)
 have e:(2:Int)^40=1099511627776:=by decide
 omega
theorem ZeU {a:Int} {n:Nat} (h:0≤a):iop .rem .i64 a (2^n)=a % 2^n:=Int.tmod_eq_emod_of_nonneg h
theorem Znq {b:Int} (h:b≤40):iop .sub .i64 1099511627776 (2^b.toNat)=1099511627776-2^b.toNat:=by
 have:=ZfR h
 have:=JO b.toNat
 exact Wp (by omega) (by omega)
theorem ZsO (a b:Int):Zrq a b=some (YP a b):=by
 have hp:=JO b.toNat
 rw [Zlp]
 by_cases h1:6≤b∧b≤40∧0≤a
 ·obtain ⟨h1,h2,h3⟩:=h1
  have hs:iop .shl .i64 1 b=2^b.toNat:=Zml (by omega)
  have hr:ZV ((0:Int)≤b)=fun (x:Option Bool)=>x:=funext fun x=>Zx (by omega) x
  have hn:ZV (((2:Int)^b.toNat)≠0)=fun (x:Option Bool)=>x:=funext fun x=>Zx (by omega) x
  simp only [hs,hr,hn,ZeU h3,Znq h2]
  repeat' split
  all_goals (refine congrArg some ?_;rw [Z2];simp only [YP,CQ] at *; omega)
 ·have hf:YP a b=false:=by simp only [YP,decide_eq_false_iff_not];omega
  rw [hf]
  repeat' split
  all_goals first | rfl | (exfalso;simp only [CQ] at *; omega)
theorem Zpa (a b:Int):Zka a b=some (YP a b):=by
 have hp:=JO b.toNat
 rw [Zk9]
 by_cases h1:6≤b∧b≤40∧0≤a
 ·obtain ⟨h1,h2,h3⟩:=h1
  have hw:IntKind.wrap .u64 b=b:=YW (by omega) (by omega)
  have hs:iop .shl .i64 1 b=2^b.toNat:=Zml (by omega)
  have hr:ZV ((0:Int)≤b)=fun (x:Option Bool)=>x:=funext fun x=>Zx (by omega) x
  have hn:ZV (((2:Int)^b.toNat)≠0)=fun (x:Option Bool)=>x:=funext fun x=>Zx (by omega) x
  have h40:=ZfR h2
  simp only [hw,hs,hr,hn,ZeU h3]
  repeat' split
  all_goals (refine congrArg some ?_;rw [Z2];simp only [YP,CQ] at *; first | omega | (rw [YU (by omega) (by omega)] at *; omega))
 ·have hf:YP a b=false:=by simp only [YP,decide_eq_false_iff_not];omega
  rw [hf]
  repeat' split
  all_goals first | rfl | (exfalso;simp only [CQ] at *; omega)
def WA (a b:Int):Int:=if YP a b=true then a+2^b.toNat else 0
theorem Zch {a b:Int} (h:YP a b=true):6≤b∧b≤40∧0≤a∧a % 2^b.toNat=0∧a+2^b.toNat≤1099511627776:=by simpa [YP] using h
theorem ZkD {a b:Int} (h:YP a b=true):iop .add .i64 a (iop .shl .i64 1 b)=WA a b:=by
 obtain ⟨h1,h2,h3,h4,h5⟩:=Zch h
 have:=JO b.toNat
 rw [Zml (by omega),YU (by omega) (by omega),WA,if_pos h]
def Zm5 (a b c d:Int):Bool:=YP a b&&YP c d&&decide (a < WA c d)&&decide (c < WA a b)
def inB (a b c d:Int):Bool:=YP a b&&YP c d&&decide (a≤c)&&decide (WA c d≤WA a b)
structure Cap where
 kind:Int
 base:Int
 bits:Int
 rights:Int
 width:Int
 level:Int
 device:Bool
theorem Zsu (k b s r w l:Int) (d:Bool):ZpD k b s r w l d=some (b,s):=Zlq ..
theorem Zkb (k b s r w l:Int) (d:Bool):Zig k b s r w l d=some (b,s):=ZkQ ..
def Yi (c:Cap):Bool:=Kx c.kind c.bits&&YP c.base c.bits&&decide (0≤c.rights∧c.rights≤7)&&(if c.kind=3 then ZaQ c.width c.level else decide (c.width=0∧c.level=0))&&(!c.device||decide (c.kind=1)||decide (c.kind=2))
theorem ZqW (k b s r w l:Int) (d:Bool):ZoJ k b s r w l d=some (Yi ⟨k,b,s,r,w,l,d⟩):=by
 rw [Zlj]
 simp only [Zsw,Zsu,ZsO,Zs3,Option.bind_some]
 repeat' split
 all_goals (refine congrArg some ?_;rw [Z2];simp only [Yi,CQ] at *; grind)
theorem ZrE (k b s r w l:Int) (d:Bool):ZmN k b s r w l d=some (Yi ⟨k,b,s,r,w,l,d⟩):=by
 rw [Zly]
 simp only [ZrM,Zkb,Zpa,ZrP,Option.bind_some]
 repeat' split
 all_goals (refine congrArg some ?_;rw [Z2];simp only [Yi,CQ] at *; grind)
end Go.Proofs.YtlgmnddelljbmaaGreat
end

section
namespace Go.Proofs.YtlgmnddelljbmaaGreat
open Go Go.AM
set_option linter.unusedSimpArgs false
set_option linter.unusedVariables false
set_option maxRecDepth 100000
def Zid (obj a sz bits r w l:Int) (d:Bool) (j:Nat):List AV:=[I obj,I (a+j*sz),I bits,I r,I w,I l,B d]
def J7 (obj a sz bits r w l:Int) (d:Bool) (n:Nat):List (List AV):=(List.range n).map (Zid obj a sz bits r w l d)
theorem Zct (obj a sz bits r w l:Int) (d:Bool) (n:Nat):J7 obj a sz bits r w l d (n+1)=J7 obj a sz bits r w l d n++[Zid obj a sz bits r w l d n]:=by
 simp [J7,List.range_succ]
theorem Wv (obj a sz bits r w l:Int) (d:Bool) (n:Nat):(J7 obj a sz bits r w l d n).length=n:=by simp [J7]
theorem V2 {n:Nat} (h:n < 2^64):n < JD:=by
 have:JD=1208925819614629174706176:=rfl
 omega
theorem ZhV {a b:List (List AV)} {k:Nat} (h:(a.length+b.length)*(k+1)≤1099511627776):Yt a b k:=h
theorem Zi1 {k b:Int} (h:Kx k b=true):6≤b∧b≤40:=by
 simp only [Kx,decide_eq_true_eq] at h
 omega
theorem Zld {c:Cap} (h:Yi c=true):YP c.base c.bits=true:=by
 simp only [Yi,Bool.and_eq_true] at h
 exact h.1.1.1.2
def W9 (c:Cap) (obj bits level width off cnt:Int):Int:=
 if Yi c=false∨c.kind≠1 then 5
 else if iop .and .i64 c.rights 2=0 then 8
 else if Kx obj bits=false∨(obj=3∧ZaQ width level=false)∨cnt < 1∨8 < cnt∨off < 0 then 1
 else if c.device=true∧obj≠1∧obj≠2 then 5
 else if off % 2^bits.toNat≠0∨2^c.bits.toNat-cnt*2^bits.toNat < off∨(obj=1∧c.bits≤bits) then 6
 else 0
def KF (c:Cap) (obj bits level width off cnt:Int):List (List AV):=
 if W9 c obj bits level width off cnt=0 then J7 obj (c.base+off) (2^bits.toNat) bits c.rights (if obj=3 then width else 0) (if obj=3 then level else 0) c.device cnt.toNat else []
theorem ZeM {c:Cap} {obj bits level width off cnt e:Int} (he:e≠0) (h:W9 c obj bits level width off cnt=e) :
  some (E0,e)=some (KF c obj bits level width off cnt,W9 c obj bits level width off cnt):=by
 simp only [KF,h,if_neg he]
theorem ZjL {c:Cap} {obj bits off cnt:Int} (hc:Yi c=true) (hs:Kx obj bits=true) (h1:1≤cnt) (h2:cnt≤8) (h3:0≤off) :
  iop .shl .i64 1 bits=2^bits.toNat∧iop .rem .i64 off (2^bits.toNat)=off % 2^bits.toNat∧iop .shl .i64 1 c.bits=2^c.bits.toNat∧iop .mul .i64 cnt (2^bits.toNat)=cnt*2^bits.toNat∧
   iop .sub .i64 (2^c.bits.toNat) (cnt*2^bits.toNat)=2^c.bits.toNat-cnt*2^bits.toNat∧(2:Int)^bits.toNat≠0∧0≤bits∧0≤c.bits∧0≤c.base∧c.base+2^c.bits.toNat≤1099511627776∧
   0 < (2:Int)^bits.toNat∧(2:Int)^bits.toNat≤1099511627776∧(2:Int)^bits.toNat≤cnt*2^bits.toNat∧0 < (2:Int)^c.bits.toNat∧bits≤40∧c.bits≤40:=by
 obtain ⟨b1,b2⟩:=Zi1 hs
 obtain ⟨r1,r2,r3,r4,r5⟩:=Zch (Zld hc)
 have p1:=JO bits.toNat
 have p2:=JO c.bits.toNat
 have q1:=ZfR b2
 have q2:=ZfR r2
 have m1:cnt*2^bits.toNat≤8*2^bits.toNat:=Int.mul_le_mul_of_nonneg_right (by omega) (by omega)
 have m2:1*2^bits.toNat≤cnt*2^bits.toNat:=Int.mul_le_mul_of_nonneg_right (by omega) (by omega)
 refine ⟨Zml (by omega),ZeU (by omega),Zml (by omega),Zn4 (by omega) (by omega),ZjB (by omega) (by omega),by omega,by omega,by omega,r3,r5,p1,q1,by omega,p2,b2,r2⟩
theorem Zet {γ:Type} {p:Prop} {_:Decidable p} (h:p):(ZV p:Option γ→Option γ)=fun x=>x:=funext fun x=>Zx h x
theorem Zqy:∃ f,JD=f+1+1+1+1+1+1:=⟨JD-6,by decide⟩
end Go.Proofs.YtlgmnddelljbmaaGreat
end

section
namespace Go.Proofs.YtlgmnddelljbmaaGreat
open Go Go.AM
set_option linter.unusedSimpArgs false
set_option linter.unusedVariables false
set_option maxRecDepth 100000
abbrev ZrY:List Sh:=[.int .i64,.int .i64,.int .i64]
def Vp (i:Id):Bool:=decide (0≤i.core∧i.core < 32∧1≤i.op∧i.op≤1073741824∧0≤i.part∧i.part < 8)
def Zki (a b:Int):Int:=if a < b then -1 else if b < a then 1 else 0
def Vf (x y z:Int):Int:=if x≠0 then x else if y≠0 then y else z
def Zmf (a b c d e f:Int):Bool:=decide (a < d∨(a=d∧(b < e∨(b=e∧c < f))))
theorem Z4 (l:List Id):(Zc l).length=l.length:=by simp [Zc]
theorem Zfv (l:List Id) (n:Nat):(Zc l).take n=Zc (l.take n):=by simp [Zc,List.map_take]
theorem Zm9 {l:List Id} {i:Nat} {x:Id} (h:l[i]? = some x):(Zc l)[i]? = some (idc x):=by simp [Zc,h]
theorem Vn {γ:Type} {l:List Id} {i:Int} {x:Id} (k:(Int×Int×Int)→Option γ) (h0:0≤i) (h:l[i.toNat]? = some x):Zu (Zc l) i ZrY k=k (x.core,x.op,x.part):=
 KG (sh:=ZrY) (r:=(x.core,x.op,x.part)) k h0 (Zm9 h) rfl
theorem YO (a b c d e f:Int):((cop .eql a d&&(cop .eql b e&&(cop .eql c f&&true)))=true)↔((⟨a,b,c⟩:Id)=⟨d,e,f⟩):=by
 simp only [CQ,Id.mk.injEq,and_true]
structure WF where
 id:Id
 path:List Id
 cap:Cap
def Ki (n:WF) (i:Nat):Bool:=match n.path[i]? with | none=>true | some x=>Vp x&&decide (x≠n.id)&&!(n.path.take i).contains x
def JA (n:WF):Bool:=Vp n.id&&Yi n.cap&&decide (n.path.length≤8)&&(List.range n.path.length).all (Ki n)
end Go.Proofs.YtlgmnddelljbmaaGreat
end

section
namespace Go.Proofs.YtlgmnddelljbmaaGreat
open Go Go.AM
set_option linter.unusedSimpArgs false
set_option linter.unusedVariables false
set_option maxRecDepth 100000
theorem Zp8 (a b c:Int):ZmR a b c=some (Vp ⟨a,b,c⟩):=by
 rw [ZkS]
 repeat' split
 all_goals (refine congrArg some ?_;rw [Z2];simp only [Vp,CQ] at *; omega)
theorem l16 {l:List Id} (hl:l.length < 2^63) (a b c:Int):∀ (j i fuel:Nat),l.length=i+j→j < fuel→ZjM fuel (Zc l) a b c i=some ((l.drop i).contains ⟨a,b,c⟩):=by
 intro j
 induction j with
 | zero =>
  intro i fuel h hf
  obtain ⟨f,rfl⟩:∃ f,fuel=f+1:=⟨fuel-1,by omega⟩
  rw [ZfV,if_neg (by simp only [CQ,Z4];omega),List.drop_of_length_le (by omega)]
  rfl
 | succ j ih =>
  intro i fuel h hf
  obtain ⟨f,rfl⟩:∃ f,fuel=f+1:=⟨fuel-1,by omega⟩
  have hi:i < l.length:=by omega
  have hat:l[(i:Int).toNat]? = some l[i]:=by simp
  have a4:iop .add .i64 i 1=((i+1:Nat):Int):=by rw [YU (by omega) (by omega)];omega
  rw [ZfV,if_pos (by simp only [CQ,Z4];omega),Vn _ (by omega) hat,a4,List.drop_eq_getElem_cons hi,List.contains_cons]
  by_cases he:l[i]=(⟨a,b,c⟩:Id)
  ·rw [if_pos (by rw [YO];exact he)]
   simp [he]
  ·rw [if_neg (by rw [YO];exact he),ih (i+1) f (by omega) (by omega)]
   have:((⟨a,b,c⟩:Id) == l[i])=false:=by simp;exact fun h=>he h.symm
   rw [this,Bool.false_or]
theorem s16 (l:List Id) (hl:l.length < 2^63) (a b c:Int):g16 (Zc l) a b c=some (l.contains ⟨a,b,c⟩):=by
 have:=l16 hl a b c l.length 0 JD (by omega) (V2 (by omega))
 rw [ZmD]
 exact this
def V0 (n:WF) (i:Nat):Bool:=match n.path[i]? with | none=>true | some x=>Vp x&&!(n.path.take i).contains x
theorem Zgg (n:WF):JA n=(Vp n.id&&Yi n.cap&&decide (n.path.length≤8)&&(!n.path.contains n.id&&(List.range n.path.length).all (V0 n))):=by
 unfold JA
 congr 1
 rw [Z2]
 simp only [Bool.and_eq_true,List.all_eq_true,List.mem_range,Bool.not_eq_true',← Bool.not_eq_true,List.contains_iff_mem]
 constructor
 ·intro h
  refine ⟨fun hc=>?_,fun i hi=>?_⟩
  ·obtain ⟨i,hi⟩:=List.mem_iff_getElem?.1 hc
   have:=h i (List.getElem?_eq_some_iff.1 hi).1
   unfold Ki at this
   rw [hi] at this
   simp at this
  ·have:=h i hi
   unfold Ki at this
   unfold V0
   rw [List.getElem?_eq_getElem hi] at this ⊢
   simp only [Bool.and_eq_true] at this ⊢
   exact ⟨this.1.1,this.2⟩
 ·intro ⟨h1,h2⟩ i hi
  have:=h2 i hi
  unfold V0 at this
  unfold Ki
  rw [List.getElem?_eq_getElem hi] at this ⊢
  simp only [Bool.and_eq_true,decide_eq_true_eq] at this ⊢
  exact ⟨⟨this.1,fun he=>h1 (he ▸ List.getElem_mem hi)⟩,this.2⟩
theorem Zss (n:WF) (hl:n.path.length < 2^63):∀ (j i fuel:Nat),n.path.length=i+j→j < fuel→
  Ze3 fuel n.id.core n.id.op n.id.part (Zc n.path) n.cap.kind n.cap.base n.cap.bits n.cap.rights n.cap.width n.cap.level n.cap.device i=some ((List.range' i j).all (V0 n)):=by
 intro j
 induction j with
 | zero =>
  intro i fuel h hf
  obtain ⟨f,rfl⟩:∃ f,fuel=f+1:=⟨fuel-1,by omega⟩
  rw [Zdk,if_neg (by simp only [CQ,Z4];omega)]
  rfl
 | succ j ih =>
  intro i fuel h hf
  obtain ⟨f,rfl⟩:∃ f,fuel=f+1:=⟨fuel-1,by omega⟩
  have hi:i < n.path.length:=by omega
  have hat:n.path[(i:Int).toNat]? = some n.path[i]:=by simp
  have a4:iop .add .i64 i 1=((i+1:Nat):Int):=by rw [YU (by omega) (by omega)];omega
  have hp:V0 n i=(Vp n.path[i]&&!(n.path.take i).contains n.path[i]):=by
   unfold V0
   rw [List.getElem?_eq_getElem hi]
  have hlt:(n.path.take i).length < 2^63:=by rw [List.length_take];omega
  rw [Zdk,if_pos (by simp only [CQ,Z4];omega),Vn _ (by omega) hat,a4,List.range'_succ,List.all_cons,hp]
  simp only [Zp8,Option.bind_some]
  cases h1:Vp n.path[i] with
  | false => simp
  | true =>
   rw [if_neg (by simp),Zx (by omega),Zx (by rw [Z4];omega),Vn _ (by omega) hat,Int.toNat_natCast,Zfv,s16 _ hlt,Option.bind_some]
   cases h3:(n.path.take i).contains n.path[i] with
   | true => simp
   | false =>
    rw [if_neg (by simp)]
    have:=ih (i+1) f (by omega) (by omega)
    rw [this]
    simp
theorem Zsj (n:WF) (hl:n.path.length < 2^63):Zqb n.id.core n.id.op n.id.part (Zc n.path) n.cap.kind n.cap.base n.cap.bits n.cap.rights n.cap.width n.cap.level n.cap.device=some (JA n):=by
 rw [ZlD,Zgg]
 simp only [Zp8,ZrE,Option.bind_some,Z4,s16 _ hl]
 cases h1:Vp n.id with
 | false => simp [show (⟨n.id.core, n.id.op, n.id.part⟩ : Id) = n.id from rfl, h1]
 | true =>
  cases h2:Yi n.cap with
  | false => simp [show (⟨n.id.core, n.id.op, n.id.part⟩ : Id) = n.id from rfl, h1, show (⟨n.cap.kind, n.cap.base, n.cap.bits, n.cap.rights, n.cap.width, n.cap.level, n.cap.device⟩ : Cap) = n.cap from rfl, h2]
  | true =>
   rw [if_neg (by simp),if_neg (by simp)]
   by_cases h3:n.path.length≤8
   ·rw [if_neg (by simp only [CQ];omega)]
    cases h4:n.path.contains n.id with
    | true => simp
    | false =>
     rw [if_neg (by simp)]
     have:=Zss n hl n.path.length 0 JD (by omega) (V2 (by omega))
     have e:(List.range' 0 n.path.length)=List.range n.path.length:=(List.range_eq_range' ..).symm
     rw [e] at this
     refine this.trans ?_
     simp [h3]
   ·rw [if_pos (by simp only [CQ];omega)]
    simp [h3]
theorem Zsc {l m:List Id} (hl:l.length < 2^63) (hm:l.length=m.length):∀ (j i fuel:Nat),l.length=i+j→j < fuel→ZfS fuel (Zc l) (Zc m) i=some (decide (l.drop i=m.drop i)):=by
 intro j
 induction j with
 | zero =>
  intro i fuel h hf
  obtain ⟨f,rfl⟩:∃ f,fuel=f+1:=⟨fuel-1,by omega⟩
  rw [Zdn,if_neg (by simp only [CQ,Z4];omega),List.drop_of_length_le (by omega),List.drop_of_length_le (by omega)]
  rfl
 | succ j ih =>
  intro i fuel h hf
  obtain ⟨f,rfl⟩:∃ f,fuel=f+1:=⟨fuel-1,by omega⟩
  have hi:i < l.length:=by omega
  have hi':i < m.length:=by omega
  have hat:l[(i:Int).toNat]? = some l[i]:=by simp
  have hat':m[(i:Int).toNat]? = some m[i]:=by simp
  have a4:iop .add .i64 i 1=((i+1:Nat):Int):=by rw [YU (by omega) (by omega)];omega
  rw [Zdn,if_pos (by simp only [CQ,Z4];omega),Vn _ (by omega) hat,Vn _ (by omega) hat',a4,List.drop_eq_getElem_cons hi,List.drop_eq_getElem_cons hi']
  by_cases he:l[i]=m[i]
  ·rw [if_neg (by rw [Bool.not_eq_true',← Bool.not_eq_true,YO];exact fun h=>h he),ih (i+1) f (by omega) (by omega)]
   simp only [he,List.cons.injEq,true_and]
  ·rw [if_pos (by rw [Bool.not_eq_true',← Bool.not_eq_true,YO];exact he)]
   simp only [List.cons.injEq,he,false_and,decide_false]
theorem Zsd (l m:List Id) (hl:l.length < 2^63) (hm:m.length < 2^63):ZqP (Zc l) (Zc m)=some (decide (l=m)):=by
 rw [Zk8,Z4,Z4]
 by_cases h:l.length=m.length
 ·rw [if_neg (by simp only [CQ];omega)]
  have:=Zsc hl h l.length 0 JD (by omega) (V2 (by omega))
  rw [List.drop_zero,List.drop_zero] at this
  exact this
 ·rw [if_pos (by simp only [CQ];omega)]
  have:¬ l=m:=fun he=>h (by rw [he])
  simp [this]
theorem s50 (a b c:Int) (l:List Id) (hl:l.length < 2^63) (k bs s r w lv:Int) (d:Bool):g50 a b c (Zc l) k bs s r w lv d a b c (Zc l) k bs s r w lv d=some true:=by
 rw [Zon,Zsd l l hl hl,if_pos (by simp [cop]),if_pos (by simp [cop]),Option.bind_some]
 simp
end Go.Proofs.YtlgmnddelljbmaaGreat
end

section
namespace Go.Proofs.YtlgmnddelljbmaaGreat
open Go Go.AM
set_option linter.unusedSimpArgs false
set_option linter.unusedVariables false
set_option maxRecDepth 100000
theorem Ze9 {n:Nat} (h:n < 2^63):n+1 < JD:=by
 have:(2:Nat)^64≤JD:=by decide
 omega
theorem ZdS {i n:Nat} (h:i < n) (hn:n < 2^63):iop .add .i64 (i:Int) 1=((i+1:Nat):Int):=by
 rw [YU (by omega) (by omega)];omega
theorem ZeN {i n:Nat} (h:i < n):(cop .lss (i:Int) (n:Int))=true:=by
 simp only [CQ];omega
theorem Zex {i n:Nat} (h:n≤i):¬ (cop .lss (i:Int) (n:Int))=true:=by
 simp only [CQ];omega
structure Call where
 kind:Int
 slot:Int
 dest:Int
 core:Int
 mask:Int
 object:Int
 bits:Int
 level:Int
 offset:Int
 count:Int
 index:Int
 addr:Int
structure Req where
 id:Id
 call:Call
 region:Int
 width:Int
 src:WF
structure Zs where
 core:Int
 slot:Int
 node:WF
def ZmX (n:WF):List AV:=[I n.id.core,I n.id.op,I n.id.part,.slice false 3 (Zc n.path),I n.cap.kind,I n.cap.base,I n.cap.bits,I n.cap.rights,I n.cap.width,I n.cap.level,B n.cap.device]
def Zph (r:Req):List AV:=[I r.id.core,I r.id.op,I r.id.part,I r.call.kind,I r.call.slot,I r.call.dest,I r.call.core,I r.call.mask,I r.call.object,I r.call.bits,I r.call.level,I r.call.offset,I r.call.count,I r.call.index,I r.call.addr,I r.region,I r.width,I r.src.id.core,I r.src.id.op,I r.src.id.part,.slice false 3 (Zc r.src.path),I r.src.cap.kind,I r.src.cap.base,I r.src.cap.bits,I r.src.cap.rights,I r.src.cap.width,I r.src.cap.level,B r.src.cap.device]
def Zd (e:Zs):List AV:=[I e.core,I e.slot,I e.node.id.core,I e.node.id.op,I e.node.id.part,.slice false 3 (Zc e.node.path),I e.node.cap.kind,I e.node.cap.base,I e.node.cap.bits,I e.node.cap.rights,I e.node.cap.width,I e.node.cap.level,B e.node.cap.device]
abbrev Zni:List Sh:=[.int .i64,.int .i64,.int .i64,.slice 3,.int .i64,.int .i64,.int .i64,.int .i64,.int .i64,.int .i64,.bool]
abbrev Zku:List Sh:=[.int .i64,.int .i64,.int .i64,.int .i64,.int .i64,.int .i64,.int .i64,.int .i64,.int .i64,.int .i64,.int .i64,.int .i64,.int .i64,.int .i64,.int .i64,.int .i64,.int .i64,.int .i64,.int .i64,.int .i64,.slice 3,.int .i64,.int .i64,.int .i64,.int .i64,.int .i64,.int .i64,.bool]
abbrev Zad:List Sh:=[.int .i64,.int .i64,.int .i64,.int .i64,.int .i64,.slice 3,.int .i64,.int .i64,.int .i64,.int .i64,.int .i64,.int .i64,.bool]
def ZkL (n:WF):ShsT Zni:=(n.id.core,n.id.op,n.id.part,Zc n.path,n.cap.kind,n.cap.base,n.cap.bits,n.cap.rights,n.cap.width,n.cap.level,n.cap.device)
def ZrH (r:Req):ShsT Zku:=(r.id.core,r.id.op,r.id.part,r.call.kind,r.call.slot,r.call.dest,r.call.core,r.call.mask,r.call.object,r.call.bits,r.call.level,r.call.offset,r.call.count,r.call.index,r.call.addr,r.region,r.width,r.src.id.core,r.src.id.op,r.src.id.part,Zc r.src.path,r.src.cap.kind,r.src.cap.base,r.src.cap.bits,r.src.cap.rights,r.src.cap.width,r.src.cap.level,r.src.cap.device)
def Yb (e:Zs):ShsT Zad:=(e.core,e.slot,e.node.id.core,e.node.id.op,e.node.id.part,Zc e.node.path,e.node.cap.kind,e.node.cap.base,e.node.cap.bits,e.node.cap.rights,e.node.cap.width,e.node.cap.level,e.node.cap.device)
theorem Vt {α γ:Type} {f:α→List AV} {sh:List Sh} {v:α→ShsT sh} (hf:∀ x,Zh5 sh (f x)=some (v x)) {l:List α} {i:Nat} (h:i < l.length) (k:ShsT sh→Option γ):Zu (l.map f) (i:Int) sh k=k (v l[i]):=by
 refine KG k (by omega) (cs:=f l[i]) ?_ (hf _)
 rw [Int.toNat_natCast,List.getElem?_map,List.getElem?_eq_getElem h]
 rfl
theorem Ziw {γ:Type} {l:List Req} {i:Nat} (h:i < l.length) (k:ShsT Zku→Option γ):Zu (l.map Zph) (i:Int) Zku k=k (ZrH l[i]):=Vt (fun _=>rfl) h k
theorem ZP {γ:Type} {l:List Zs} {i:Nat} (h:i < l.length) (k:ShsT Zad→Option γ):Zu (l.map Zd) (i:Int) Zad k=k (Yb l[i]):=Vt (fun _=>rfl) h k
theorem Zhu {γ:Type} {l:List Int} {i:Nat} (h:i < l.length) (k:Int→Option γ):Zu (ZfH l) (i:Int) [.int .i64] k=k l[i]:=Vt (f:=Zhb) (sh:=[.int .i64]) (v:=fun x=>x) (fun _=>rfl) h k
end Go.Proofs.YtlgmnddelljbmaaGreat
end

section
namespace Go.Proofs.YtlgmnddelljbmaaGreat
open Go Go.AM
set_option linter.unusedSimpArgs false
set_option linter.unusedVariables false
set_option maxRecDepth 100000
end Go.Proofs.YtlgmnddelljbmaaGreat
end

section
namespace Go.Proofs.YtlgmnddelljbmaaGreat
open Go Go.AM
set_option linter.unusedSimpArgs false
set_option linter.unusedVariables false
set_option maxRecDepth 100000
end Go.Proofs.YtlgmnddelljbmaaGreat
end

section
namespace Go.Proofs.YtlgmnddelljbmaaGreat
open Go Go.AM
set_option linter.unusedSimpArgs false
set_option linter.unusedVariables false
set_option maxRecDepth 100000
def Zpg (a b:Id):Bool:=Zmf a.core a.op a.part b.core b.op b.part
theorem Zst (a b c d e f:Int):Zre a b c d e f=some (Zmf a b c d e f):=by
 rw [Zl5]
 repeat' split
 all_goals (refine congrArg some ?_;rw [Z2];simp only [Zmf,CQ] at *; omega)
def lte:Zs→Zs→Bool:=fun a b=>Zpg a.node.id b.node.id
end Go.Proofs.YtlgmnddelljbmaaGreat
end

section
namespace Go.Proofs.YtlgmnddelljbmaaGreat
open Go Go.AM
set_option linter.unusedSimpArgs false
set_option linter.unusedVariables false
set_option maxRecDepth 100000
theorem Zsp {n:Nat} (h:n≤maxLen):n < 2^63:=by
 have:maxLen+1=2^63:=by decide
 omega
end Go.Proofs.YtlgmnddelljbmaaGreat
end

section
namespace Go.Proofs.YtlgmnddelljbmaaGreat
open Go Go.AM
set_option linter.unusedSimpArgs false
set_option linter.unusedVariables false
set_option maxRecDepth 100000
theorem Zlv {α:Type} {F:Nat→LL→Int→Option LL} (l:List α) (f:α→LL) (hn:l.length < 2^63)
  (step:∀ (k i:Nat) (hi:i < l.length),F (k+1) ((l.take i).flatMap f) (i:Int)=F k ((l.take i).flatMap f++f l[i]) ((i+1:Nat):Int))
  (last:∀ (k:Nat) (acc:LL) (i:Nat),l.length≤i→F (k+1) acc (i:Int)=some acc):F JD [] 0=some (l.flatMap f):=by
 have key:∀ (j i fuel:Nat),l.length≤i+j→j < fuel→F fuel ((l.take i).flatMap f) (i:Int)=some (l.flatMap f):=by
  intro j
  induction j with
  | zero =>
   intro i fuel h hf
   obtain ⟨q,rfl⟩:∃ q,fuel=q+1:=⟨fuel-1,by omega⟩
   rw [last q _ i (by omega),List.take_of_length_le (by omega)]
  | succ j ih =>
   intro i fuel h hf
   obtain ⟨q,rfl⟩:∃ q,fuel=q+1:=⟨fuel-1,by omega⟩
   by_cases hi:i < l.length
   ·have e:(l.take i).flatMap f++f l[i]=(l.take (i+1)).flatMap f:=by
     rw [List.take_add_one,List.getElem?_eq_getElem hi,Option.toList_some,List.flatMap_append,List.flatMap_singleton]
    rw [step q i hi,e]
    exact ih (i+1) q (by omega) (by omega)
   ·rw [last q _ i (by omega),List.take_of_length_le (by omega)]
 exact key l.length 0 JD (by omega) (by have:=Ze9 hn;omega)
theorem ZfQ {α:Type} (f:α→List AV) (l:List α):l.flatMap (fun x=>[f x])=l.map f:=by
 induction l with
 | nil => rfl
 | cons a r ih => rw [List.flatMap_cons, ih, List.map_cons]; rfl
theorem Jr {a b:LL} {k:Nat} (h:a.length+b.length≤4096) (hk:k≤10000):Yt a b k:=by
 unfold Yt ZX
 have:(a.length+b.length)*(k+1)≤4096*10001:=Nat.mul_le_mul h (by omega)
 omega
theorem s39 (l:List Id) (h:l.length≤64):g39 (Zc l)=some (Zc l):=by
 rw [ZnF]
 exact Zx (Jr (by rw [Z4];simp;omega) (by omega)) _
theorem Zr0 (l:List Id) (h:l.length≤64):ZoA (Zc l)=some (Zc l):=by
 rw [ZlS]
 refine Zlw (fun hn=>?_) ?_
 ·rw [if_pos rfl,hn]
 ·rw [if_neg Bool.false_ne_true]
  exact Zx (Jr (by rw [Z4];simp;omega) (by omega)) _
theorem s13 (n:WF) (h:n.path.length≤64):g13 n.id.core n.id.op n.id.part (Zc n.path) n.cap.kind n.cap.base n.cap.bits n.cap.rights n.cap.width n.cap.level n.cap.device=some (ZkL n):=by
 rw [ZmW,s39 _ h];rfl
theorem s87 (n:WF) (h:n.path.length≤64):g87 n.id.core n.id.op n.id.part (Zc n.path) n.cap.kind n.cap.base n.cap.bits n.cap.rights n.cap.width n.cap.level n.cap.device=some (ZkL n):=by
 rw [ZmI,Zr0 _ h];rfl
end Go.Proofs.YtlgmnddelljbmaaGreat
end

section
namespace Go.Proofs.YtlgmnddelljbmaaGreat
open Go Go.AM
set_option linter.unusedSimpArgs false
set_option linter.unusedVariables false
set_option maxRecDepth 100000
theorem ZhB {α:Type} (f:α→List AV) (g:α→α) (l:List α) (i o:Nat) (c:List AV) (h:∀ x,l[i]? = some x→setCells (f x) o c=f (g x)):J0 (l.map f) i o c=(l.modify i g).map f:=by
 unfold J0
 refine List.ext_getElem? fun j=>?_
 rw [List.getElem?_modify,List.getElem?_map,List.getElem?_map,List.getElem?_modify]
 cases hj:l[j]? with
 | none => rfl
 | some x =>
  by_cases hij:i=j
  ·subst hij
   simp [h x hj]
  ·simp [hij]
theorem ZiK {α:Type} (l:List α) (i:Nat):l.modify i (fun x=>x)=l:=by
 refine List.ext_getElem? fun j=>?_
 rw [List.getElem?_modify]
 cases l[j]? <;> simp
theorem ZjZ {α:Type} (f:α→List AV) (l:List α) (i o:Nat) (c:List AV) (h:∀ x,l[i]? = some x→setCells (f x) o c=f x):J0 (l.map f) i o c=l.map f:=by
 rw [ZhB f (fun x=>x) l i o c h,ZiK]
end Go.Proofs.YtlgmnddelljbmaaGreat
end

section
namespace Go.Proofs.YtlgmnddelljbmaaGreat
open Go Go.AM
set_option linter.unusedSimpArgs false
set_option linter.unusedVariables false
set_option maxRecDepth 100000
theorem Zdb {γ:Type} {F:Nat→Int→Option γ} {n:Nat} (hit:Nat→γ) (p:Nat→Bool) (hn:n < 2^63)
  (step:∀ k i:Nat,i < n→F (k+1) (i:Int)=if p i=true then some (hit i) else F k ((i+1:Nat):Int))
  (last:∀ k:Nat,F (k+1) (n:Int)=some (hit n)) (m:Nat) (hm:m≤n) (h1:∀ j,j < m→p j=false) (h2:m < n→p m=true):F JD 0=some (hit m):=by
 have key:∀ (j i fuel:Nat),i+j=m→n-i < fuel→F fuel (i:Int)=some (hit m):=by
  intro j
  induction j with
  | zero =>
   intro i fuel h hf
   obtain ⟨q,rfl⟩:∃ q,fuel=q+1:=⟨fuel-1,by omega⟩
   have:i=m:=by omega
   subst this
   by_cases hi:i < n
   ·rw [step q i hi,if_pos (h2 hi)]
   ·have:i=n:=by omega
    subst this
    exact last q
  | succ j ih =>
   intro i fuel h hf
   obtain ⟨q,rfl⟩:∃ q,fuel=q+1:=⟨fuel-1,by omega⟩
   rw [step q i (by omega),if_neg (by rw [h1 i (by omega)];exact Bool.false_ne_true)]
   exact ih (i+1) q (by omega) (by omega)
 exact key m 0 JD (by omega) (by have:=Ze9 hn;omega)
def WV {α:Type} (q:α→Bool):List α→Nat
 | [] => 0
 | a :: r => match q a with | true => 0 | false => WV q r + 1
theorem Kj {α:Type} (q:α→Bool):∀ (l:List α),WV q l≤l.length
 | [] => Nat.le_refl _
 | a :: r => by
  unfold WV
  have:=Kj q r
  split<;>simp only [List.length_cons]<;>omega
theorem Zbx {α:Type} (q:α→Bool):∀ (l:List α) (j:Nat) (hj:j < l.length),j < WV q l→q l[j]=false
 | [], j, hj, _ => by simp at hj
 | a :: r, j, hj, h => by
  unfold WV at h
  split at h
  ·omega
  ·rename_i ha
   cases j with
   | zero => exact ha
   | succ j => exact Zbx q r j (by simpa using hj) (by omega)
theorem Zbq {α:Type} (q:α→Bool):∀ (l:List α) (h:WV q l < l.length),q l[WV q l]=true
 | [], h => by simp at h
 | a :: r, h => by
  cases ha:q a with
  | true =>
   have e:WV q (a::r)=0:=by unfold WV;rw [ha]
   simp only [e]
   exact ha
  | false =>
   have e:WV q (a::r)=WV q r+1:=by rw [WV];rw [ha]
   have h':WV q r < r.length:=by rw [e] at h;simpa using h
   have:=Zbq q r h'
   simp only [e]
   exact this
def Zes (n m:Nat):Int:=if m < n then (m:Int) else -1
theorem Zfe (n m:Nat):cop .geq (Zes n m) 0=decide (m < n):=by
 unfold Zes
 rw [Z2]
 split<;>simp only [CQ]<;>constructor<;>intro<;>first | omega | simp_all
theorem Zez {n m:Nat} (h:m < n):Zes n m=(m:Int):=if_pos h
def before (r q:Req):Bool:=Zpg r.id q.id
end Go.Proofs.YtlgmnddelljbmaaGreat
end

section
namespace Go.Proofs.YtlgmnddelljbmaaGreat
open Go Go.AM
set_option linter.unusedSimpArgs false
set_option linter.unusedVariables false
set_option maxRecDepth 100000
structure ZkV where
 root:Bool
 src:Int
 core:Int
 slot:Int
 kind:Int
 base:Int
 bits:Int
 count:Int
 rights:Int
 copy:Bool
def V5 (s:ZkV):List AV:=[B s.root,I s.src,I s.core,I s.slot,I s.kind,I s.base,I s.bits,I s.count,I s.rights,B s.copy]
theorem Zoc:Tryz.prog.cellsOf 100=10:=by kernel_rfl
theorem ZlK {d:Nat} {cs:List AV} (h:TyR Tryz.prog (d+2) 100 cs):∃ s:ZkV,cs=V5 s:=by
 rw [TyR] at h
 simp only [Tryz.underlying100] at h
 obtain ⟨ps,rfl,hl,hp⟩:=h
 obtain ⟨p0,p1,p2,p3,p4,p5,p6,p7,p8,p9,rfl⟩:∃ p0 p1 p2 p3 p4 p5 p6 p7 p8 p9,ps = [p0,p1,p2,p3,p4,p5,p6,p7,p8,p9]:=by
  match ps,hl with
  | [p0, p1, p2, p3, p4, p5, p6, p7, p8, p9], _ => exact ⟨p0, p1, p2, p3, p4, p5, p6, p7, p8, p9, rfl⟩
 obtain ⟨a,rfl⟩:=Zib (hp 0 _ _ rfl rfl)
 obtain ⟨b,rfl⟩:=VT (hp 1 _ _ rfl rfl)
 obtain ⟨c,rfl⟩:=VT (hp 2 _ _ rfl rfl)
 obtain ⟨d,rfl⟩:=VT (hp 3 _ _ rfl rfl)
 obtain ⟨e,rfl⟩:=VT (hp 4 _ _ rfl rfl)
 obtain ⟨f,rfl⟩:=VT (hp 5 _ _ rfl rfl)
 obtain ⟨g,rfl⟩:=VT (hp 6 _ _ rfl rfl)
 obtain ⟨i,rfl⟩:=VT (hp 7 _ _ rfl rfl)
 obtain ⟨j,rfl⟩:=VT (hp 8 _ _ rfl rfl)
 obtain ⟨k,rfl⟩:=Zib (hp 9 _ _ rfl rfl)
 exact ⟨⟨a,b,c,d,e,f,g,i,j,k⟩,rfl⟩
theorem Zg7 {x:AV} (h:Za8 Tryz.prog 12 22 x):∃ l:List ZkV,x = .slice false 10 (l.map V5)∧l.length < 2^63:=by
 simp only [Za8,Tryz.underlying22] at h
 have hh:=h.2
 rw [TyR] at hh
 simp only [Tryz.underlying22,Zoc] at hh
 obtain ⟨xs,h1,h2,h3⟩:=hh
 obtain ⟨l,rfl,h5⟩:=Zd9 (f:=V5) (p:=fun _=>True) xs fun y hy=>(ZlK (h3 y hy)).elim fun a h=>⟨a,h,trivial⟩
 exact ⟨l,by simpa using h1,Zsp (by simpa using h2)⟩
end Go.Proofs.YtlgmnddelljbmaaGreat
end

section
namespace Go.Proofs.YtlgmnddelljbmaaGreat
open Go Go.AM
set_option linter.unusedSimpArgs false
set_option linter.unusedVariables false
set_option maxRecDepth 100000
theorem ZrU (a b:Int):Zme a b=some (WA a b):=by
 rw [ZlB]
 simp only [Zpa,Option.bind_some]
 cases h:YP a b with
 | false => simp [WA, h]
 | true =>
  obtain ⟨h1,h2,h3,h4,h5⟩:=Zch h
  have hw:IntKind.wrap .u64 b=b:=YW (by omega) (by omega)
  simp only [Bool.not_true,Bool.false_eq_true,if_false,hw]
  rw [Zx (by omega),ZkD h]
theorem Zqo (a b c d:Int):ZmY a b c d=some (Zm5 a b c d):=by
 rw [Zlb]
 simp only [Zpa,ZrU,Option.bind_some]
 repeat' split
 all_goals (refine congrArg some ?_;rw [Z2];simp only [Zm5,Jp,Jf,Jh,Jm,Jk,Jq,Jo,Je,Jg,Jn,Ji,Jl,Bool.not_eq_true,Bool.not_eq_false,Bool.not_eq_true',Bool.not_eq_false',Bool.and_eq_true,Bool.or_eq_true,decide_eq_true_eq,decide_eq_false_iff_not,Bool.false_eq_true,Bool.true_eq_false,Option.bind_some,Option.some.injEq,false_iff,true_iff,iff_false,iff_true] at *; grind)
theorem ZsD (a b c d:Int):Zq4 a b c d=some (inB a b c d):=by
 rw [Zl2]
 simp only [Zpa,ZrU,Option.bind_some]
 repeat' split
 all_goals (refine congrArg some ?_;rw [Z2];simp only [inB,Jp,Jf,Jh,Jm,Jk,Jq,Jo,Je,Jg,Jn,Ji,Jl,Bool.not_eq_true,Bool.not_eq_false,Bool.not_eq_true',Bool.not_eq_false',Bool.and_eq_true,Bool.or_eq_true,decide_eq_true_eq,decide_eq_false_iff_not,Bool.false_eq_true,Bool.true_eq_false,Option.bind_some,Option.some.injEq,false_iff,true_iff,iff_false,iff_true] at *; grind)
theorem s81 (k b s r w l:Int) (d:Bool) (m:Int):g81 k b s r w l d m=some (k,b,s,iop .and .i64 r m,w,l,d):=ZnU ..
end Go.Proofs.YtlgmnddelljbmaaGreat
end

section
namespace Go.Proofs.YtlgmnddelljbmaaGreat
open Go Go.AM
set_option linter.unusedSimpArgs false
set_option linter.unusedVariables false
set_option maxRecDepth 100000
theorem l82 {b r w l k s:Int} {d fl:Bool} {lv wd bits sz off obj cnt:Int} (hb:0≤b) (hoff:0≤off) (hsz:0≤sz) (hc:cnt≤8) (hm:b+off+8*sz < 2^62):∀ (j i fuel:Nat),cnt=i+j→j < fuel→
  Kl fuel obj bits lv wd off cnt k b s r w l d fl sz (J7 obj (b+off) sz bits r (if fl=true then wd else 0) (if fl=true then lv else 0) d i) i=some (J7 obj (b+off) sz bits r (if fl=true then wd else 0) (if fl=true then lv else 0) d cnt.toNat,0):=by
 intro j
 have e62:(2:Int)^62=4611686018427387904:=by decide
 induction j with
 | zero =>
  intro i fuel h hf
  obtain ⟨f,rfl⟩:∃ f,fuel=f+1:=⟨fuel-1,by omega⟩
  rw [ZfL,if_neg (by simp only [Jp,Jf,Jh,Jm,Jk,Jq,Jo,Je,Jg,Jn,Ji,Jl,Bool.not_eq_true,Bool.not_eq_false,Bool.not_eq_true',Bool.not_eq_false',Bool.and_eq_true,Bool.or_eq_true,decide_eq_true_eq,decide_eq_false_iff_not,Bool.false_eq_true,Bool.true_eq_false,Option.bind_some,Option.some.injEq,false_iff,true_iff,iff_false,iff_true];omega)]
  have:cnt.toNat=i:=by omega
  rw [this]
 | succ j ih =>
  intro i fuel h hf
  obtain ⟨f,rfl⟩:∃ f,fuel=f+1:=⟨fuel-1,by omega⟩
  have hsi:(i:Int)*sz≤8*sz:=Int.mul_le_mul_of_nonneg_right (by omega) hsz
  have hsi0:0≤(i:Int)*sz:=Int.mul_nonneg (by omega) hsz
  have a1:iop .add .i64 b off=b+off:=YU (by omega) (by omega)
  have a2:iop .mul .i64 i sz=i*sz:=Zn4 (by omega) (by omega)
  have a3:iop .add .i64 (b+off) (i*sz)=b+off+i*sz:=YU (by omega) (by omega)
  have a4:iop .add .i64 i 1=((i+1:Nat):Int):=by rw [YU (by omega) (by omega)];omega
  have:=ih (i+1) f (by omega) (by omega)
  rw [Zct] at this
  rw [ZfL,if_pos (by simp only [Jp,Jf,Jh,Jm,Jk,Jq,Jo,Je,Jg,Jn,Ji,Jl,Bool.not_eq_true,Bool.not_eq_false,Bool.not_eq_true',Bool.not_eq_false',Bool.and_eq_true,Bool.or_eq_true,decide_eq_true_eq,decide_eq_false_iff_not,Bool.false_eq_true,Bool.true_eq_false,Option.bind_some,Option.some.injEq,false_iff,true_iff,iff_false,iff_true];omega)]
  cases fl
  ·simp only [Bool.false_eq_true,if_false] at this ⊢
   rw [Zx (ZhV (by rw [Wv];simp;omega)),a1,a2,a3,a4]
   exact this
  ·simp only [if_true] at this ⊢
   rw [Zx (ZhV (by rw [Wv];simp;omega)),a1,a2,a3,a4]
   exact this
set_option maxHeartbeats 4000000 in
theorem s82 (k b s r w l:Int) (d:Bool) (obj bits level width off cnt:Int):g82 k b s r w l d obj bits level width off cnt =
  some (KF ⟨k,b,s,r,w,l,d⟩ obj bits level width off cnt,W9 ⟨k,b,s,r,w,l,d⟩ obj bits level width off cnt):=by
 rw [Zoe]
 simp only [ZrE,ZrM,ZrP,Option.bind_some]
 by_cases hh:Yi ⟨k,b,s,r,w,l,d⟩=true∧k=1∧iop .and .i64 r 2≠0∧Kx obj bits=true∧(obj=3→ZaQ width level=true)∧1≤cnt∧cnt≤8∧0≤off
 ·obtain ⟨h1,rfl,h3,h4,h5,h6,h7,h8⟩:=hh
  obtain ⟨n1,n2,n3,n4,n5,n6,n7,n8,n9,n10,n11,n12,n13,n14,n15,n16⟩:=ZjL h1 h4 h6 h7 h8
  have q1:(ZV ((0:Int)≤bits):Option (List (List AV)×Int)→_)=fun x=>x:=Zet n7
  have q2:(ZV ((2:Int)^bits.toNat≠0):Option (List (List AV)×Int)→_)=fun x=>x:=Zet n6
  have hw1:IntKind.wrap .u64 bits=bits:=YW n7 (by omega)
  have hw2:IntKind.wrap .u64 s=s:=YW n8 (by simp only at n16;omega)
  have q3:(ZV ((0:Int)≤s):Option (List (List AV)×Int)→_)=fun x=>x:=Zet n8
  simp only at n3 n5
  have loop:∀ fl:Bool,off+cnt*2^bits.toNat≤2^s.toNat→Kl JD obj bits level width off cnt 1 b s r w l d fl (2^bits.toNat) [] 0=some (J7 obj (b+off) (2^bits.toNat) bits r (if fl=true then width else 0) (if fl=true then level else 0) d cnt.toNat,0):=by
   intro fl hle
   have:=l82 (fl:=fl) (k:=1) (s:=s) (r:=r) (w:=w) (l:=l) (d:=d) (lv:=level) (wd:=width) (bits:=bits) (obj:=obj) (cnt:=cnt) n9 h8 (Int.le_of_lt n11) h7 (show b+off+8*2^bits.toNat < 2^62 by
    have e62:(2:Int)^62=4611686018427387904:=by decide
    simp only at n10
    omega) cnt.toNat 0 JD (by omega) (V2 (by omega))
   exact this
  have n9':0≤b:=n9
  have n10':b+2^s.toNat≤1099511627776:=n10
  have n5':off≤2^s.toNat→iop .sub .i64 (2^s.toNat) off=2^s.toNat-off:=fun h=>ZjB (by omega) (by omega)
  have hR:W9 ⟨1,b,s,r,w,l,d⟩ obj bits level width off cnt=if d=true∧obj≠1∧obj≠2 then 5 else if off % 2^bits.toNat≠0∨2^s.toNat-cnt*2^bits.toNat < off∨(obj=1∧s≤bits) then 6 else 0:=by
   rw [W9,if_neg (by simp [h1]),if_neg h3,if_neg (by
    rintro (h | ⟨h,h'⟩ | h | h | h)
    ·rw [h4] at h;cases h
    ·rw [h5 h] at h';cases h'
    ·omega
    ·omega
    ·omega)]
  have hk1:cop .neq (1:Int) 1=false:=rfl
  simp only [hw1,hw2,n1,n2,n3,n4,q1,q2,q3,h1,h4,hk1,Bool.not_true,Bool.false_eq_true,if_false]
  clear n1 n2 n3 n4 n5 q1 q2 q3
  by_cases e5:d=true∧obj≠1∧obj≠2
  ·rw [if_pos e5] at hR
   obtain ⟨hd,e1,e2⟩:=e5
   repeat' (with_reducible refine YX (fun _=>?_) (fun _=>?_))
   all_goals first
    | exact ZeM (by decide) hR
    | (exfalso; simp only [Jp, Jf, Jh, Jm, Jk, Jq, Jo, Je, Jg, Jn, Ji, Jl, Bool.not_eq_true, Bool.not_eq_false, Bool.not_eq_true', Bool.not_eq_false', Bool.and_eq_true, Bool.or_eq_true, decide_eq_true_eq, decide_eq_false_iff_not, Bool.false_eq_true, Bool.true_eq_false, Option.bind_some, Option.some.injEq, false_iff, true_iff, iff_false, iff_true] at *; first | omega | grind)
  ·rw [if_neg e5] at hR
   by_cases e6:off % 2^bits.toNat≠0∨2^s.toNat-cnt*2^bits.toNat < off∨(obj=1∧s≤bits)
   ·rw [if_pos e6] at hR
    repeat' (with_reducible refine YX (fun _=>?_) (fun _=>?_))
    all_goals first
     | exact ZeM (by decide) hR
     | (exfalso; simp only [Jp, Jf, Jh, Jm, Jk, Jq, Jo, Je, Jg, Jn, Ji, Jl, Bool.not_eq_true, Bool.not_eq_false, Bool.not_eq_true', Bool.not_eq_false', Bool.and_eq_true, Bool.or_eq_true, decide_eq_true_eq, decide_eq_false_iff_not, Bool.false_eq_true, Bool.true_eq_false, Option.bind_some, Option.some.injEq, false_iff, true_iff, iff_false, iff_true] at *; rw [n5' (by omega)] at *; first | omega | grind)
     | (exfalso; simp only [Jp, Jf, Jh, Jm, Jk, Jq, Jo, Je, Jg, Jn, Ji, Jl, Bool.not_eq_true, Bool.not_eq_false, Bool.not_eq_true', Bool.not_eq_false', Bool.and_eq_true, Bool.or_eq_true, decide_eq_true_eq, decide_eq_false_iff_not, Bool.false_eq_true, Bool.true_eq_false, Option.bind_some, Option.some.injEq, false_iff, true_iff, iff_false, iff_true] at *; first | omega | grind)
   ·rw [if_neg e6] at hR
    have hL:∀ fl,Kl JD obj bits level width off cnt 1 b s r w l d fl (2^bits.toNat) [] 0=some (J7 obj (b+off) (2^bits.toNat) bits r (if fl=true then width else 0) (if fl=true then level else 0) d cnt.toNat,0):=fun fl=>loop fl (by omega)
    have n5:=n5' (by omega)
    simp only [hL,KF,hR,if_true,n5]
    have hfl:(cop .eql obj 3=true)=(obj=3):=by simp only [Jp,Jf,Jh,Jm,Jk,Jq,Jo,Je,Jg,Jn,Ji,Jl,Bool.not_eq_true,Bool.not_eq_false,Bool.not_eq_true',Bool.not_eq_false',Bool.and_eq_true,Bool.or_eq_true,decide_eq_true_eq,decide_eq_false_iff_not,Bool.false_eq_true,Bool.true_eq_false,Option.bind_some,Option.some.injEq,false_iff,true_iff,iff_false,iff_true]
    simp only [hfl]
    repeat' (with_reducible refine YX (fun _=>?_) (fun _=>?_))
    all_goals first
     | rfl
     | (exfalso; simp only [Jp, Jf, Jh, Jm, Jk, Jq, Jo, Je, Jg, Jn, Ji, Jl, Bool.not_eq_true, Bool.not_eq_false, Bool.not_eq_true', Bool.not_eq_false', Bool.and_eq_true, Bool.or_eq_true, decide_eq_true_eq, decide_eq_false_iff_not, Bool.false_eq_true, Bool.true_eq_false, Option.bind_some, Option.some.injEq, false_iff, true_iff, iff_false, iff_true] at *; first | omega | grind)
 ·repeat' (with_reducible refine YX (fun _=>?_) (fun _=>?_))
  all_goals first
   | exact ZeM (by decide) (by simp only [Jp, Jf, Jh, Jm, Jk, Jq, Jo, Je, Jg, Jn, Ji, Jl, Bool.not_eq_true, Bool.not_eq_false, Bool.not_eq_true', Bool.not_eq_false', Bool.and_eq_true, Bool.or_eq_true, decide_eq_true_eq, decide_eq_false_iff_not, Bool.false_eq_true, Bool.true_eq_false, Option.bind_some, Option.some.injEq, false_iff, true_iff, iff_false, iff_true] at *; simp only [W9]; grind)
   | (exfalso; simp only [Jp, Jf, Jh, Jm, Jk, Jq, Jo, Je, Jg, Jn, Ji, Jl, Bool.not_eq_true, Bool.not_eq_false, Bool.not_eq_true', Bool.not_eq_false', Bool.and_eq_true, Bool.or_eq_true, decide_eq_true_eq, decide_eq_false_iff_not, Bool.false_eq_true, Bool.true_eq_false, Option.bind_some, Option.some.injEq, false_iff, true_iff, iff_false, iff_true] at *; grind)
end Go.Proofs.YtlgmnddelljbmaaGreat
end

section
namespace Go.Proofs.YtlgmnddelljbmaaGreat
open Go Go.AM
set_option linter.unusedSimpArgs false
set_option linter.unusedVariables false
set_option maxRecDepth 100000
theorem Zeq {n:WF} (h:JA n=true):n.path.length≤8:=by
 simp only [JA,Bool.and_eq_true,decide_eq_true_eq] at h
 exact h.1.2
theorem s12 (x n:Int) (h1:1≤n) (h2:n < 2^62):g12 x n=some (x % n):=by
 have e62:(2:Int)^62=4611686018427387904:=by decide
 have hm0:=Int.emod_nonneg x (show n≠0 by omega)
 have hm1:=Int.emod_lt_of_pos x (show 0 < n by omega)
 have ht:iop .rem .i64 x n=x.tmod n:=rfl
 rw [ZmB,if_neg (by simp only [CQ];omega),Zx (by omega),ht]
 have:=Int.tmod_eq_emod (a:=x) (b:=n)
 by_cases hd:0≤x∨n ∣ x
 ·rw [if_pos hd] at this
  rw [if_neg (by simp only [CQ];omega)]
  congr 1
  omega
 ·rw [if_neg hd] at this
  have habs:((n.natAbs:Nat):Int)=n:=by omega
  have hne:x % n≠0:=fun h=>hd (.inr (Int.dvd_of_emod_eq_zero h))
  rw [if_pos (by simp only [CQ];omega),YU (by omega) (by omega)]
  congr 1
  omega
def Ret {α:Type} (P:α→Prop) (o:Option α):Prop:=∃ r,o=some r∧P r
theorem Zf {α:Type} {P:α→Prop} {a:α} (h:P a):Ret P (some a):=⟨a,rfl,h⟩
theorem Zz {α β:Type} {P:β→Prop} {Q:α→Prop} {o:Option α} {f:α→Option β} (h:Ret Q o) (k:∀ r,Q r→Ret P (f r)):Ret P (o.bind f):=by
 obtain ⟨r,rfl,hr⟩:=h
 exact k r hr
theorem Zb {α:Type} {P:α→Prop} {c:Prop} {_:Decidable c} {a b:Option α} (h1:c→Ret P a) (h2:¬ c→Ret P b):Ret P (if c then a else b):=by
 split
 ·exact h1 ‹_›
 ·exact h2 ‹_›
theorem Ja {α:Type} {P:α→Prop} {p:Prop} {_:Decidable p} {x:Option α} (h:p) (k:Ret P x):Ret P (ZV p x):=by
 rw [Zx h];exact k
theorem ZA {α:Type} {P:α→Prop} {a b:Option α} (h:a=b) (k:Ret P b):Ret P a:=h ▸ k
theorem Za {α β:Type} {P:β→Prop} {o:Option α} {a:α} {f:α→Option β} (h:o=some a) (k:Ret P (f a)):Ret P (o.bind f):=by
 subst h;exact k
theorem VS {σ γ:Type} {P:γ→Prop} {F:Nat→σ→Int→Option γ} {n:Nat} (J:Nat→σ→Prop) (hn:n < 2^63)
  (step:∀ (k i:Nat) (s:σ),i < n→J i s→(∀ s',J (i+1) s'→Ret P (F k s' ((i+1:Nat):Int)))→Ret P (F (k+1) s (i:Int)))
  (last:∀ (k:Nat) (s:σ),J n s→Ret P (F (k+1) s (n:Int))) (s:σ) (h:J 0 s):Ret P (F JD s 0):=by
 have key:∀ (j i fuel:Nat) (s:σ),i+j=n→j < fuel→J i s→Ret P (F fuel s (i:Int)):=by
  intro j
  induction j with
  | zero =>
   intro i fuel s h hf hj
   obtain ⟨q,rfl⟩:∃ q,fuel=q+1:=⟨fuel-1,by omega⟩
   have:i=n:=by omega
   subst this
   exact last q s hj
  | succ j ih =>
   intro i fuel s h hf hj
   obtain ⟨q,rfl⟩:∃ q,fuel=q+1:=⟨fuel-1,by omega⟩
   exact step q i s (by omega) hj fun s' hs=>ih (i+1) q s' (by omega) (by omega) hs
 exact key n 0 JD s (by omega) (by have:=Ze9 hn;omega) h
theorem place (x n:Int) (h1:1≤n) (h2:n < 2^62):Ret (fun r=>0≤r∧r < n) (g12 x n):=⟨_,s12 x n h1 h2,Int.emod_nonneg x (by omega),Int.emod_lt_of_pos x (by omega)⟩
theorem Wz {γ:Type} {P:γ→Prop} {l:List Int} {z:Int} {k:Int→Option γ} (h0:0≤z) (h:z.toNat < l.length) (hk:Ret P (k l[z.toNat])):Ret P (Zu (ZfH l) z [.int .i64] k):=by
 have e:z=((z.toNat:Nat):Int):=by omega
 have:=Zhu h k
 rw [← e] at this
 exact ZA this hk
theorem Kv {γ:Type} {P:γ→Prop} {l:List Zs} {z:Int} {k:ShsT Zad→Option γ} (h0:0≤z) (h:z.toNat < l.length) (hk:Ret P (k (Yb l[z.toNat]))):Ret P (Zu (l.map Zd) z Zad k):=by
 have e:z=((z.toNat:Nat):Int):=by omega
 have:=ZP h k
 rw [← e] at this
 exact ZA this hk
def ZiQ (c:Cap):List AV:=[I c.kind,I c.base,I c.bits,I c.rights,I c.width,I c.level,B c.device]
abbrev Zh9:List Sh:=[.int .i64,.int .i64,.int .i64,.int .i64,.int .i64,.int .i64,.bool]
def Zmn (c:Cap):ShsT Zh9:=(c.kind,c.base,c.bits,c.rights,c.width,c.level,c.device)
theorem VW {γ:Type} {l:List Cap} {i:Nat} (h:i < l.length) (k:ShsT Zh9→Option γ):Zu (l.map ZiQ) (i:Int) Zh9 k=k (Zmn l[i]):=Vt (fun _=>rfl) h k
def atP {α:Type} (q:α→Bool) (p:List α) (i:Nat):Bool:=match p[i]? with | some x=>q x | none=>false
theorem ZbQ {α:Type} (q:α→Bool) {p:List α} {i:Nat} (h:i < p.length):atP q p i=q p[i]:=by unfold atP;rw [List.getElem?_eq_getElem h]
def idE (i:Id) (e:Zs):Bool:=decide (e.node.id=i)
def plE (c s:Int) (e:Zs):Bool:=decide (e.core=c)&&decide (e.slot=s)
theorem ZrK (l:List Zs) (hn:l.length < 2^63) (j:Id):Zov (l.map Zd) j.core j.op j.part=some (Zes l.length (WV (idE j) l)):=by
 rw [ZlM]
 exact Zdb (F:=fun k z=>ZbZ k (l.map Zd) j.core j.op j.part z) (n:=l.length) (fun m=>Zes l.length m) (atP (idE j) l) hn
  (fun k i hi=>by
   show ZbZ (k+1) _ _ _ _ _=_
   rw [Zdf,List.length_map,if_pos (ZeN hi)]
   refine (ZP hi _).trans ?_
   simp only [Yb,d2,d4,d8,d16]
   rw [ZdS hi hn,ZbQ _ hi,Zez hi,idE]
   refine YX (fun h1=>?_) fun h1=>?_
   ·rw [if_pos (by rw [YO] at h1;rw [decide_eq_true_eq];exact h1)]
   ·rw [if_neg (by rw [YO] at h1;rw [decide_eq_true_eq];exact h1)])
  (fun k=>by
   show ZbZ (k+1) _ _ _ _ _=_
   rw [Zdf,List.length_map,if_neg (Zex (Nat.le_refl _)),Zes,if_neg (Nat.lt_irrefl _)]) (WV (idE j) l) (Kj _ l) (fun i hi=>by
    have hl:=Kj (idE j) l
    rw [ZbQ _ (by omega)];exact Zbx _ l i (by omega) hi) (fun h=>by rw [ZbQ _ h];exact Zbq _ l h)
theorem Zsa (l:List Zs) (hn:l.length < 2^63) (c s:Int):ZpF (l.map Zd) c s=some (Zes l.length (WV (plE c s) l)):=by
 rw [Zlh]
 exact Zdb (F:=fun k z=>ZaC k (l.map Zd) c s z) (n:=l.length) (fun m=>Zes l.length m) (atP (plE c s) l) hn
  (fun k i hi=>by
   show ZaC (k+1) _ _ _ _=_
   rw [Zd2,List.length_map,if_pos (ZeN hi)]
   refine (ZP hi _).trans ?_
   simp only [Yb,d2,d4,d8,d16]
   rw [ZdS hi hn,ZbQ _ hi,Zez hi,plE]
   refine YX (fun h1=>?_) fun h1=>?_
   ·simp only [CQ] at h1
    refine (ZP hi _).trans ?_
    simp only [Yb,d2,d4,d8,d16]
    refine YX (fun h2=>?_) fun h2=>?_
    ·simp only [CQ] at h2
     rw [if_pos (by simp [h1,h2])]
    ·simp only [CQ] at h2
     rw [if_neg (by simp [h2])]
   ·simp only [CQ] at h1
    rw [if_neg (by simp [h1])])
  (fun k=>by
   show ZaC (k+1) _ _ _ _=_
   rw [Zd2,List.length_map,if_neg (Zex (Nat.le_refl _)),Zes,if_neg (Nat.lt_irrefl _)]) (WV (plE c s) l) (Kj _ l) (fun i hi=>by
    have hl:=Kj (plE c s) l
    rw [ZbQ _ (by omega)];exact Zbx _ l i (by omega) hi) (fun h=>by rw [ZbQ _ h];exact Zbq _ l h)
structure Zc0 (l:List Zs):Prop where
 len:l.length≤100
 path:∀ e∈l,e.node.path.length≤20
theorem s11 (l:List Zs) (h:Zc0 l):g11 (l.map Zd)=some (l.map Zd):=by
 rw [Znt]
 have hn:l.length < 2^63:=by have:=h.len;omega
 refine (Zlv (F:=fun k acc i=>ZgA k (l.map Zd) acc i) l (fun r=>[Zd r]) hn (fun k i hi=>?_) (fun k acc i hi=>?_)).trans (by rw [ZfQ])
 ·show ZgA (k+1) _ _ _=_
  rw [Zft,List.length_map,if_pos (ZeN hi)]
  refine (ZP hi _).trans ?_
  simp only [Yb,d2,d4,d8,d16]
  refine (ZP hi _).trans ?_
  refine (ZP hi _).trans ?_
  have hp:=h.path l[i] (List.getElem_mem hi)
  simp only [Yb,d2,d4,d8,d16]
  rw [s13 l[i].node (by omega),Option.bind_some]
  refine (Zx (Jr ?_ (by omega)) _).trans ?_
  ·rw [ZfQ]
   have:=h.len
   simp only [List.length_map,List.length_take,List.length_append,List.length_cons,List.length_nil]
   omega
  ·rw [ZdS hi hn]
   rfl
 ·show ZgA (k+1) _ _ _=_
  rw [Zft,List.length_map,if_neg (Zex hi)]
def Zlk (l:List Zs) (x:Zs) (r:List Zs):Prop:=∃ i,i≤l.length∧(∀ j (h:j < l.length),j < i→lte x l[j]=false)∧(∀ h:i < l.length,lte x l[i]=true)∧l.any (idE x.node.id)=false∧l.any (plE x.core x.slot)=false∧r=l.take i++[x]++l.drop i
theorem Zj4 {α:Type} (q:α→Bool) (l:List α) (h:¬ cop .geq (Zes l.length (WV q l)) 0=true):l.any q=false:=by
 rw [Zfe,decide_eq_true_eq] at h
 rw [List.any_eq_false]
 intro x hx
 obtain ⟨i,hi,rfl⟩:=List.getElem_of_mem hx
 have:=Zbx q l i hi (by omega)
 simp [this]
theorem ZiD {l m:List Zs} (h:Zc0 l) (hs:∀ e∈m,e∈l) (hl:m.length≤l.length):Zc0 m:=⟨by have:=h.len;omega,fun e he=>h.path e (hs e he)⟩
theorem s53 (l:List Zs) (h:Zc0 l) (x:Zs) (hx:x.node.path.length≤20):Ret (fun r=>r=(E0,false)∨∃ m,Zlk l x m∧r=(m.map Zd,true)) (g53 (l.map Zd) x.core x.slot x.node.id.core x.node.id.op x.node.id.part (Zc x.node.path) x.node.cap.kind x.node.cap.base x.node.cap.bits x.node.cap.rights x.node.cap.width x.node.cap.level x.node.cap.device):=by
 have hn:l.length < 2^63:=by have:=h.len;omega
 rw [Zmw,ZrK l hn x.node.id,Option.bind_some]
 refine Zb (fun _=>Zf (.inl rfl)) fun h1=>?_
 rw [Zsa l hn,Option.bind_some]
 refine Zb (fun _=>Zf (.inl rfl)) fun h2=>?_
 have n1:=Zj4 _ _ h1
 have n2:=Zj4 _ _ h2
 have ins:∀ (i:Nat),i≤l.length→(∀ j (h:j < l.length),j < i→lte x l[j]=false)→(∀ h:i < l.length,lte x l[i]=true)→Ret (fun r=>r=(E0,false)∨∃ m,Zlk l x m∧r=(m.map Zd,true)) (ZV ((0:Int)≤(i:Int))<|ZV ((i:Int)≤(List.length (l.map Zd):Int))<|
   (g11 (List.take (Int.toNat (i:Int)) (l.map Zd))).bind fun (r29:LL)=>(g13 x.node.id.core x.node.id.op x.node.id.part (Zc x.node.path) x.node.cap.kind x.node.cap.base x.node.cap.bits x.node.cap.rights x.node.cap.width x.node.cap.level x.node.cap.device).bind fun r30=>
   ZV (Yt r29 (E0++[[I x.core,I x.slot,I r30.1,I r30.2.1,I r30.2.2.1,AV.slice false 3 r30.2.2.2.1,I r30.2.2.2.2.1,I r30.2.2.2.2.2.1,I r30.2.2.2.2.2.2.1,I r30.2.2.2.2.2.2.2.1,I r30.2.2.2.2.2.2.2.2.1,I r30.2.2.2.2.2.2.2.2.2.1,AV.val (.bool r30.2.2.2.2.2.2.2.2.2.2)]]) 120)<|
   ZV ((0:Int)≤(i:Int))<|ZV ((i:Int)≤(List.length (l.map Zd):Int))<|(g11 (List.drop (Int.toNat (i:Int)) (l.map Zd))).bind fun (r41:LL)=>
   ZV (Yt (r29++(E0++[[I x.core,I x.slot,I r30.1,I r30.2.1,I r30.2.2.1,AV.slice false 3 r30.2.2.2.1,I r30.2.2.2.2.1,I r30.2.2.2.2.2.1,I r30.2.2.2.2.2.2.1,I r30.2.2.2.2.2.2.2.1,I r30.2.2.2.2.2.2.2.2.1,I r30.2.2.2.2.2.2.2.2.2.1,AV.val (.bool r30.2.2.2.2.2.2.2.2.2.2)]])) r41 120)<|
   some (((r29++(E0++[[I x.core,I x.slot,I r30.1,I r30.2.1,I r30.2.2.1,AV.slice false 3 r30.2.2.2.1,I r30.2.2.2.2.1,I r30.2.2.2.2.2.1,I r30.2.2.2.2.2.2.1,I r30.2.2.2.2.2.2.2.1,I r30.2.2.2.2.2.2.2.2.1,I r30.2.2.2.2.2.2.2.2.2.1,AV.val (.bool r30.2.2.2.2.2.2.2.2.2.2)]]))++r41),true)):=by
  intro i hi hlo hhi
  have hl:=h.len
  refine Ja (by omega) (Ja (by rw [List.length_map];omega) ?_)
  rw [Int.toNat_natCast,← List.map_take,← List.map_drop,s11 _ (ZiD h (fun e he=>List.mem_of_mem_take he) (by simp;omega)),Option.bind_some,s13 x.node (by omega),Option.bind_some]
  refine Ja (Jr (by simp;omega) (by omega)) (Ja (by omega) (Ja (by rw [List.length_map];omega) ?_))
  rw [s11 _ (ZiD h (fun e he=>List.mem_of_mem_drop he) (by simp)),Option.bind_some]
  refine Ja (Jr (by simp;omega) (by omega)) (Zf (.inr ⟨_,⟨i,hi,hlo,hhi,n1,n2,rfl⟩,?_⟩))
  simp [Zd,ZkL]
 refine VS (F:=fun k (_:Unit) z=>Zf9 k (l.map Zd) x.core x.slot x.node.id.core x.node.id.op x.node.id.part (Zc x.node.path) x.node.cap.kind x.node.cap.base x.node.cap.bits x.node.cap.rights x.node.cap.width x.node.cap.level x.node.cap.device z) (n:=l.length) (fun i _=>∀ j (h:j < l.length),j < i→lte x l[j]=false) hn (fun k i _ hi hJ ih=>?_) (fun k _ hJ=>?_) () (fun j _ h0=>absurd h0 (Nat.not_lt_zero _))
 ·show Ret _ (Zf9 (k+1) _ _ _ _ _ _ _ _ _ _ _ _ _ _ _)
  rw [ZfO,List.length_map,if_pos (ZeN hi)]
  refine ZA (ZP hi _) ?_
  simp only [Yb,d2,d4,d8,d16]
  rw [Zst,Option.bind_some]
  refine Zb (fun hc=>?_) fun hc=>?_
  ·rw [ZdS hi hn]
   refine ih () fun j h1 h2=>?_
   by_cases hji:j < i
   ·exact hJ j h1 hji
   ·have:j=i:=by omega
    subst this
    rw [Bool.not_eq_true'] at hc
    exact hc
  ·have:=ins i (by omega) hJ fun _=>by rw [Bool.not_eq_true',Bool.not_eq_false] at hc;exact hc
   rw [List.length_map] at this
   exact this
 ·show Ret _ (Zf9 (k+1) _ _ _ _ _ _ _ _ _ _ _ _ _ _ _)
  rw [ZfO,List.length_map,if_neg (Zex (Nat.le_refl _))]
  have:=ins l.length (Nat.le_refl _) hJ fun h=>absurd h (Nat.lt_irrefl _)
  rw [List.length_map] at this
  exact this
theorem s80 (l:List Zs) (h:Zc0 l) (x:Zs) (hx:x.node.path.length≤20):Ret (fun r=>∃ m,(m=l∨Zlk l x m)∧r=m.map Zd) (g80 (l.map Zd) x.core x.slot x.node.id.core x.node.id.op x.node.id.part (Zc x.node.path) x.node.cap.kind x.node.cap.base x.node.cap.bits x.node.cap.rights x.node.cap.width x.node.cap.level x.node.cap.device):=by
 rw [Zmq]
 refine Zz (s53 l h x hx) fun r hr=>?_
 rcases hr with rfl | ⟨m,hm,rfl⟩
 ·exact Zb (fun _=>Zf ⟨l,.inl rfl,rfl⟩) fun h=>absurd rfl h
 ·exact Zb (fun h=>absurd h (by simp)) fun _=>Zf ⟨m,.inr hm,rfl⟩
structure Zhw (s:WF) (i:Id) (c:Cap):Prop where
 src:JA s=true
 id:Vp i=true
 cap:Yi c=true
 ne:i≠s.id
 fresh:s.path.contains i=false
 room:s.path.length < 8
def KA (s:WF) (i:Id) (c:Cap):WF:=⟨i,s.path++[s.id],c⟩
theorem s83 (s:WF) (hs:s.path.length≤20) (i:Id) (c:Cap):Ret (fun r=>(∃ e:Int,e≠0∧r=(0,0,0,E0,0,0,0,0,0,0,false,e))∨(Zhw s i c∧r=(i.core,i.op,i.part,Zc (s.path++[s.id]),c.kind,c.base,c.bits,c.rights,c.width,c.level,c.device,0)))
  (g83 s.id.core s.id.op s.id.part (Zc s.path) s.cap.kind s.cap.base s.cap.bits s.cap.rights s.cap.width s.cap.level s.cap.device i.core i.op i.part c.kind c.base c.bits c.rights c.width c.level c.device):=by
 rw [Znn,Zsj s (by omega),Option.bind_some]
 refine Zb (fun _=>Zf (.inl ⟨1,by omega,rfl⟩)) fun h1=>?_
 rw [Zp8,Option.bind_some]
 refine Zb (fun _=>Zf (.inl ⟨1,by omega,rfl⟩)) fun h2=>?_
 rw [ZrE,Option.bind_some]
 refine Zb (fun _=>Zf (.inl ⟨1,by omega,rfl⟩)) fun h3=>?_
 refine Zb (fun _=>Zf (.inl ⟨1,by omega,rfl⟩)) fun h4=>?_
 rw [YO] at h4
 rw [s16 s.path (by omega),Option.bind_some]
 refine Zb (fun _=>Zf (.inl ⟨1,by omega,rfl⟩)) fun h5=>?_
 refine Zb (fun _=>Zf (.inl ⟨9,by omega,rfl⟩)) fun h6=>?_
 rw [s39 s.path (by omega),Option.bind_some]
 refine Ja (Jr (by rw [Z4];simp;omega) (by omega)) (Zf (.inr ⟨?_,?_⟩))
 ·simp only [Bool.not_eq_true',Bool.not_eq_false] at h1 h2 h3
  simp only [Bool.not_eq_true] at h5
  have h8:=Zeq h1
  simp only [CQ,Z4] at h6
  exact ⟨h1,h2,h3,h4,h5,by omega⟩
 ·simp [Zc,idc]
end Go.Proofs.YtlgmnddelljbmaaGreat
end

section
namespace Go.Proofs.YtlgmnddelljbmaaGreat
open Go Go.AM
set_option linter.unusedSimpArgs false
set_option linter.unusedVariables false
set_option maxRecDepth 100000
theorem Zp3 {a b:Int} (h0:0≤b) (h1:b≤62) (h2:0≤a) (h3:a*2^b.toNat < 2^63):iop .shl .i64 a b=a*2^b.toNat:=by
 have hmin:min b.toNat IntKind.i64.bits=b.toNat:=by
  have:IntKind.i64.bits=64:=rfl
  omega
 simp only [iop,hmin]
 have hp:=JO b.toNat
 have:0≤a*2^b.toNat:=Int.mul_nonneg h2 (by omega)
 rw [Wp (by omega) h3]
theorem ZsG (a b:Int):Ret (fun r=>∃ k q:Int,r=(q*2^k.toNat,k)∧6≤k∧k≤16∧0≤q∧q < 2^(16-k).toNat) (ZrD a b):=by
 rw [ZkC]
 refine Zz (place b 11 (by omega) (by omega)) fun x hx=>?_
 obtain ⟨k,hk⟩:∃ k,k=6+x:=⟨_,rfl⟩
 have e1:iop .add .i64 6 x=k:=by rw [YU (by omega) (by omega),hk]
 have e2:iop .sub .i64 16 k=16-k:=ZjB (by omega) (by omega)
 have w1:IntKind.wrap .u64 (16-k)=16-k:=YW (by omega) (by omega)
 have w2:IntKind.wrap .u64 k=k:=YW (by omega) (by omega)
 have hp:(2:Int)^(16-k).toNat < 2^62:=by
  have:=Zg4 (m:=(16-k).toNat) (n:=16) (by omega)
  have e:(2:Int)^16=65536:=by decide
  have e:(2:Int)^62=4611686018427387904:=by decide
  omega
 have hp1:=JO (16-k).toNat
 rw [e1,e2,w1,w2,Zml (by omega)]
 refine Ja (by omega) (Zz (place a _ (by omega) hp) fun q hq=>Ja (by omega) (Zf ⟨k,q,?_,by omega,by omega,hq.1,hq.2⟩))
 have hm:q*2^k.toNat < 2^63:=by
  have h1:q*2^k.toNat≤2^(16-k).toNat*2^k.toNat:=Int.mul_le_mul_of_nonneg_right (by omega) (by have:=JO k.toNat;omega)
  rw [← Int.pow_add,show (16-k).toNat+k.toNat=16 by omega] at h1
  have e:(2:Int)^16=65536:=by decide
  have e:(2:Int)^63=9223372036854775808:=by decide
  omega
 rw [Zp3 (by omega) (by omega) hq.1 hm]
theorem s78 (a b:Int):Ret (fun r=>∃ c:Cap,r=Zmn c∧Yi c=true) (g78 a b):=by
 rw [ZmE]
 refine Zz (ZsG a b) fun r ⟨k,q,hr,h1,h2,h3,h4⟩=>?_
 subst hr
 refine Zf ⟨⟨1,q*2^k.toNat,k,7,0,0,false⟩,rfl,?_⟩
 have hm:(q+1)*2^k.toNat≤65536:=by
  have h5:(q+1)*2^k.toNat≤2^(16-k).toNat*2^k.toNat:=Int.mul_le_mul_of_nonneg_right (by omega) (by have:=JO k.toNat;omega)
  rw [← Int.pow_add,show (16-k).toNat+k.toNat=16 by omega] at h5
  have e:(2:Int)^16=65536:=by decide
  omega
 rw [Int.add_mul,Int.one_mul] at hm
 have h6:0≤q*2^k.toNat:=Int.mul_nonneg h3 (by have:=JO k.toNat;omega)
 have h7:q*2^k.toNat % 2^k.toNat=0:=Int.mul_emod_left ..
 simp [Yi,Kx,YP,h6,h7]
 omega
theorem ZiV (c:Cap) (obj bits level width off cnt:Int):∃ cs:List Cap,KF c obj bits level width off cnt=cs.map ZiQ∧(cs.length:Int)≤max 0 cnt:=by
 unfold KF
 split
 ·refine ⟨(List.range cnt.toNat).map fun (j:Nat)=>⟨obj,c.base+off+(j:Int)*2^bits.toNat,bits,c.rights,if obj=3 then width else 0,if obj=3 then level else 0,c.device⟩,?_,by simp;omega⟩
  rw [List.map_map];rfl
 ·exact ⟨[],rfl,by simp;omega⟩
theorem l79 (rec0:List V→Option Bool) (l:List Zs) (hn:l.length < 2^63) (cs:List Cap) (m i:Nat) (hi:i < cs.length) (ih':Ret (fun _=>True) (rec0 [.l (l.map Zd),.l (cs.map ZiQ),.i (Zes l.length m),.i (iop .add .i64 (i:Int) 1)])) :
  Ret (fun _=>True) (W5 rec0 JD (l.map Zd) (cs.map ZiQ) (Zes l.length m) (i:Int) 0):=by
 refine VS (P:=fun _=>True) (F:=fun k2 (_:Unit) z=>W5 rec0 k2 (l.map Zd) (cs.map ZiQ) (Zes l.length m) (i:Int) z) (n:=l.length) (fun _ _=>True) hn (fun k2 t _ ht _ ih2=>?_) (fun k2 _ _=>?_) () trivial
 ·show Ret _ (W5 _ (k2+1) _ _ _ _ _)
  rw [ZfB,List.length_map,if_pos (ZeN ht)]
  refine ZA (ZP ht _) ?_
  simp only [Yb,d2,d4,d8,d16]
  have nxt:Ret (fun _=>True) (W5 rec0 k2 (l.map Zd) (cs.map ZiQ) (Zes l.length m) (i:Int) (iop .add .i64 (t:Int) 1)):=by rw [ZdS ht hn];exact ih2 () trivial
  refine Zb (fun h1=>?_) fun h1=>?_
  ·rw [Zfe,decide_eq_true_eq] at h1
   refine Zb (fun h2=>?_) fun h2=>?_
   ·rw [Zkb,Option.bind_some]
    refine ZA (congrArg (fun z=>Zu (l.map Zd) z _ _) (Zez h1)) ?_
    refine ZA (ZP h1 _) ?_
    simp only [Yb,d2,d4,d8,d16]
    rw [Zkb,Option.bind_some,ZsD,Option.bind_some,Option.bind_some]
    refine ZA (VW hi _) ?_
    simp only [Zmn]
    rw [Zkb,Option.bind_some,Zqo,Option.bind_some]
    exact Zb (fun _=>Zb (fun _=>Zf trivial) fun _=>nxt) fun _=>nxt
   ·rw [Zkb,Option.bind_some]
    refine ZA (VW hi _) ?_
    simp only [Zmn]
    rw [Zkb,Option.bind_some,Zqo,Option.bind_some]
    exact Zb (fun _=>Zf trivial) fun _=>nxt
  ·rw [Zkb,Option.bind_some]
   refine ZA (VW hi _) ?_
   simp only [Zmn]
   rw [Zkb,Option.bind_some,Zqo,Option.bind_some]
   exact Zb (fun _=>Zf trivial) fun _=>nxt
 ·show Ret _ (W5 _ (k2+1) _ _ _ _ _)
  rw [ZfB,List.length_map,if_neg (Zex (Nat.le_refl _))]
  exact ih'
theorem s79 (l:List Zs) (hn:l.length < 2^63) (j:Id) (cs:List Cap) (hc:cs.length < 2^63):Ret (fun _=>True) (g79 (l.map Zd) j.core j.op j.part (cs.map ZiQ)):=by
 rw [ZmO,ZrK l hn j,Option.bind_some]
 generalize hm:WV (idE j) l=m
 refine VS (F:=fun k (_:Unit) z=>ZgX k (l.map Zd) (cs.map ZiQ) (Zes l.length m) z) (n:=cs.length) (fun _ _=>True) hc (fun k i _ hi _ ih=>?_) (fun k _ _=>?_) () trivial
 ·show Ret _ (ZgX (k+1) _ _ _ _)
  rw [ZfK,List.length_map,if_pos (ZeN hi)]
  exact l79 _ l hn cs m i hi (by rw [ZdS hi hc];exact ih () trivial)
 ·show Ret _ (ZgX (k+1) _ _ _ _)
  rw [ZfK,List.length_map,if_neg (Zex (Nat.le_refl _))]
  exact Zf trivial
structure EOk (e:Zs):Prop where
 c0:0≤e.core
 c1:e.core < 4
 s0:0≤e.slot
 s1:e.slot < 16
 ic:e.node.id.core=e.core
 o1:1≤e.node.id.op
 o2:e.node.id.op≤40
 p0:0≤e.node.id.part
 p1:e.node.id.part < 3
 ok:JA e.node=true
 pa:∀ i∈e.node.path,i.op≤40
structure FOk (l:List Zs) (n:Nat):Prop where
 len:l.length≤n
 all:∀ e∈l,EOk e
 asc:l.Pairwise fun a b=>lte a b=true
 pl:l.Pairwise fun a b=>¬ (a.core=b.core∧a.slot=b.slot)
theorem Jj {n:WF} (h:JA n=true):Vp n.id=true∧Yi n.cap=true∧n.path.length≤8∧(List.range n.path.length).all (Ki n)=true:=by
 simp only [JA,Bool.and_eq_true,decide_eq_true_eq] at h
 exact ⟨h.1.1.1,h.1.1.2,h.1.2,h.2⟩
theorem FOk.few {l:List Zs} {n:Nat} (h:FOk l n) (hn:n≤100):Zc0 l:=⟨by have:=h.len;omega,fun e he=>by have:=(Jj (h.all e he).ok).2.2.1;omega⟩
theorem W6 {a b:Zs} : lte a b=true↔(a.node.id.core < b.node.id.core∨(a.node.id.core=b.node.id.core∧(a.node.id.op < b.node.id.op∨(a.node.id.op=b.node.id.op∧a.node.id.part < b.node.id.part)))):=by simp [lte,Zpg,Zmf]
theorem ZhF {a b c:Zs} (h1:lte a b=true) (h2:lte b c=true):lte a c=true:=by
 rw [W6] at *; omega
theorem Zir {a b:Zs} (h:lte a b=false) (hne:a.node.id≠b.node.id):lte b a=true:=by
 rw [← Bool.not_eq_true,W6] at h
 rw [W6]
 have:¬ (a.node.id.core=b.node.id.core∧a.node.id.op=b.node.id.op∧a.node.id.part=b.node.id.part):=fun ⟨e1,e2,e3⟩=>hne (by cases ha:a.node.id;cases hb:b.node.id;simp_all)
 omega
theorem ZfJ {l m:List Zs} {x:Zs} (h:l.Pairwise fun a b=>lte a b=true) (ha:Zlk l x m):m.Pairwise fun a b=>lte a b=true:=by
 obtain ⟨i,hi,hlo,hhi,hid,_,rfl⟩:=ha
 have hge:∀ j (hj:j < l.length),i≤j→lte x l[j]=true:=by
  intro j hj hij
  have h1:lte x (l[i]'(by omega))=true:=hhi (by omega)
  by_cases hji:j=i
  ·subst hji;exact h1
  ·exact ZhF h1 (List.pairwise_iff_getElem.1 h i j (by omega) hj (by omega))
 rw [List.pairwise_append,List.pairwise_append]
 refine ⟨⟨h.take,List.pairwise_singleton ..,fun a ha b hb=>?_⟩,h.drop,fun a ha b hb=>?_⟩
 ·rw [List.mem_singleton] at hb
  subst hb
  obtain ⟨j,hj,rfl⟩:=List.getElem_of_mem ha
  rw [List.length_take] at hj
  rw [List.getElem_take]
  refine Zir (hlo j (by omega) (by omega)) fun he=>?_
  rw [List.any_eq_false] at hid
  have:=hid _ (List.getElem_mem (show j < l.length by omega))
  rw [idE,decide_eq_true_eq] at this
  exact this he.symm
 ·obtain ⟨k,hk,rfl⟩:=List.getElem_of_mem hb
  rw [List.length_drop] at hk
  rw [List.getElem_drop]
  rw [List.mem_append,List.mem_singleton] at ha
  rcases ha with ha | rfl
  ·obtain ⟨j,hj,rfl⟩:=List.getElem_of_mem ha
   rw [List.length_take] at hj
   rw [List.getElem_take]
   exact List.pairwise_iff_getElem.1 h j (i+k) (by omega) (by omega) (by omega)
  ·exact hge (i+k) (by omega) (by omega)
theorem Zk6 {l m:List Zs} {x:Zs} (h:l.Pairwise fun a b=>¬ (a.core=b.core∧a.slot=b.slot)) (ha:Zlk l x m):m.Pairwise fun a b=>¬ (a.core=b.core∧a.slot=b.slot):=by
 obtain ⟨i,hi,_,_,_,hpl,rfl⟩:=ha
 have hp:(l.take i++[x]++l.drop i).Perm (x::l):=by
  have:=List.perm_middle (a:=x) (l₁:=l.take i) (l₂:=l.drop i)
  rw [List.append_assoc,List.singleton_append]
  rw [List.take_append_drop] at this
  exact this
 refine (hp.pairwise_iff (fun h hc=>h ⟨hc.1.symm,hc.2.symm⟩)).2 (List.pairwise_cons.2 ⟨fun e he hc=>?_,h⟩)
 rw [List.any_eq_false] at hpl
 exact hpl e he (by simp [plE,hc.1,hc.2])
theorem Zil {l m:List Zs} {x:Zs} {n:Nat} (h:FOk l n) (hx:EOk x) (ha:m=l∨Zlk l x m):FOk m (n+1):=by
 rcases ha with rfl | ha
 ·exact ⟨by have:=h.len;omega,h.all,h.asc,h.pl⟩
 ·have hasc:=ZfJ h.asc ha
  have hapl:=Zk6 h.pl ha
  obtain ⟨i,hi,_,_,_,_,rfl⟩:=ha
  refine ⟨by have:=h.len;simp;omega,fun e he=>?_,hasc,hapl⟩
  simp only [List.mem_append,List.mem_singleton] at he
  rcases he with (he | rfl) | he
  ·exact h.all e (List.mem_of_mem_take he)
  ·exact hx
  ·exact h.all e (List.mem_of_mem_drop he)
theorem ZlH (i:Id) (c:Cap) (hi:Vp i=true) (hc:Yi c=true):JA ⟨i,[],c⟩=true:=by simp [JA,hi,hc]
theorem Zfh {s:WF} {i:Id} {c:Cap} (h:Zhw s i c):JA (KA s i c)=true:=by
 obtain ⟨k1,k2,k3,k4⟩:=Jj h.src
 have hr:=h.room
 simp only [JA,KA,Bool.and_eq_true,decide_eq_true_eq,h.id,h.cap,true_and,List.length_append,List.length_cons,List.length_nil]
 refine ⟨by omega,?_⟩
 rw [List.all_eq_true] at k4 ⊢
 intro j hj
 rw [List.mem_range] at hj
 by_cases hjl:j < s.path.length
 ·have:=k4 j (List.mem_range.2 hjl)
  simp only [Ki,List.getElem?_eq_getElem hjl] at this
  simp only [Ki,List.getElem?_append_left hjl,List.getElem?_eq_getElem hjl,List.take_append_of_le_length (Nat.le_of_lt hjl)]
  simp only [Bool.and_eq_true,decide_eq_true_eq] at this ⊢
  refine ⟨⟨this.1.1,fun he=>?_⟩,this.2⟩
  have hf:=h.fresh
  rw [← he] at hf
  simp at hf
 ·have hje:j=s.path.length:=by omega
  subst hje
  simp only [Ki,List.getElem?_append_right (Nat.le_refl _),Nat.sub_self,List.getElem?_cons_zero,List.take_left]
  simp only [Bool.and_eq_true,decide_eq_true_eq]
  refine ⟨⟨k1,fun he=>h.ne he.symm⟩,?_⟩
  rw [Bool.not_eq_true',← Bool.not_eq_true,List.contains_iff_mem]
  intro hm
  obtain ⟨t,ht,hte⟩:=List.getElem_of_mem hm
  have:=k4 t (List.mem_range.2 ht)
  simp only [Ki,List.getElem?_eq_getElem ht,hte] at this
  simp at this
theorem l37 (src:WF) (hs:src.path.length≤20) (hso:src.id.op≤40) (hsp:∀ i∈src.path,i.op≤40) (root:Bool) (op core slot:Int) (hc0:0≤core) (hc1:core < 4) (hs0:0≤slot) (hs1:slot < 8) (h1:1≤op) (h2:op≤40) (cs:List Cap) (hcs:cs.length≤3) (l:List Zs) (n:Nat) (hn:n≤60) (h:FOk l n) :
  Ret (fun r=>∃ m,FOk m (n+3)∧r=m.map Zd) (Zda JD (l.map Zd) op core slot src.id.core src.id.op src.id.part (Zc src.path) src.cap.kind src.cap.base src.cap.bits src.cap.rights src.cap.width src.cap.level src.cap.device (cs.map ZiQ) 0):=by
 refine VS (F:=fun k (s:LL) z=>Zda k s op core slot src.id.core src.id.op src.id.part (Zc src.path) src.cap.kind src.cap.base src.cap.bits src.cap.rights src.cap.width src.cap.level src.cap.device (cs.map ZiQ) z) (n:=cs.length) (fun i s=>∃ m,FOk m (n+i)∧s=m.map Zd) (by omega) (fun k i s hi hj ih=>?_) (fun k s hj=>?_) _ ⟨l,h,rfl⟩
 ·obtain ⟨m,hm,rfl⟩:=hj
  show Ret _ (Zda (k+1) _ _ _ _ _ _ _ _ _ _ _ _ _ _ _ _ _)
  rw [Zfs,List.length_map,if_pos (ZeN hi)]
  refine ZA (VW hi _) ?_
  simp only [Zmn]
  refine Zz (s83 src hs ⟨core,op,(i:Int)⟩ cs[i]) fun r hr=>?_
  rcases hr with ⟨e,he,rfl⟩ | ⟨hk,rfl⟩
  ·refine Zb (fun _=>Zf ⟨m,⟨by have:=hm.len;omega,hm.all,hm.asc,hm.pl⟩,rfl⟩) fun hh=>?_
   simp only [CQ] at hh
   exact absurd hh (by omega)
  ·refine Zb (fun hh=>absurd hh (by simp [cop])) fun _=>?_
   have ho:=Jj (Zfh hk)
   have hx:EOk ⟨core,slot+i,KA src ⟨core,op,(i:Int)⟩ cs[i]⟩:=⟨hc0,hc1,by show 0≤slot+i;omega,by show slot+i < 16;omega,rfl,h1,h2,by show (0:Int)≤i;omega,by show (i:Int) < 3;omega,Zfh hk,fun i hi=>by rcases List.mem_append.1 hi with h | h;exact hsp i h;rw [List.mem_singleton.1 h];exact hso⟩
   have ea:iop .add .i64 slot (i:Int)=slot+i:=YU (by omega) (by omega)
   rw [ea]
   refine Zz (s80 m (hm.few (by omega)) ⟨core,slot+i,KA src ⟨core,op,(i:Int)⟩ cs[i]⟩ (by have:=ho.2.2.1;show (KA src ⟨core,op,(i:Int)⟩ cs[i]).path.length≤20;omega)) fun r ⟨m',hm',hr⟩=>?_
   subst hr
   rw [ZdS hi (by omega)]
   exact ih _ ⟨m',Zil hm hx hm',rfl⟩
 ·obtain ⟨m,hm,rfl⟩:=hj
  show Ret _ (Zda (k+1) _ _ _ _ _ _ _ _ _ _ _ _ _ _ _ _ _)
  rw [Zfs,List.length_map,if_neg (Zex (Nat.le_refl _))]
  exact Zf ⟨m,⟨by have:=hm.len;omega,hm.all,hm.asc,hm.pl⟩,rfl⟩
theorem Zr7 (l:List Zs) (n:Nat) (hn:n≤60) (h:FOk l n) (core slot op base bits:Int) (hc0:0≤core) (hc1:core < 4) (hs0:0≤slot) (hs1:slot < 8) (h1:1≤op) (h2:op≤40) :
    Ret (fun r=>∃ m,FOk m (n+3)∧r=m.map Zd) ((g78 base bits).bind fun r14=>
 (g79 (l.map Zd) 0 0 0 (E0++[[I r14.1,I r14.2.1,I r14.2.2.1,I r14.2.2.2.1,I r14.2.2.2.2.1,I r14.2.2.2.2.2.1,AV.val (.bool r14.2.2.2.2.2.2)]])).bind fun (r21:Bool)=>
 if r21=true then some (l.map Zd) else
 (g80 (l.map Zd) core slot core op 0 E0 r14.1 r14.2.1 r14.2.2.1 r14.2.2.2.1 r14.2.2.2.2.1 r14.2.2.2.2.2.1 r14.2.2.2.2.2.2).bind fun (r22:LL)=>some (r22)):=by
  refine Zz (s78 base bits) fun r ⟨c,hr,hc⟩=>?_
  subst hr
  have hl:=h.len
  refine Zz (s79 l (by omega) ⟨0,0,0⟩ [c] (by simp)) fun b _=>?_
  refine Zb (fun _=>Zf ⟨l,⟨by omega,h.all,h.asc,h.pl⟩,rfl⟩) fun _=>?_
  have hi:Vp ⟨core,op,0⟩=true:=by simp [Vp];omega
  have hx:EOk ⟨core,slot,⟨⟨core,op,0⟩,[],c⟩⟩:=⟨hc0,hc1,hs0,by show slot < 16;omega,rfl,h1,h2,Int.le_refl _,by show (0:Int) < 3;omega,ZlH _ _ hi hc,fun i hi=>by cases hi⟩
  refine Zz (s80 l (h.few (by omega)) ⟨core,slot,⟨⟨core,op,0⟩,[],c⟩⟩ (by simp)) fun r ⟨m',hm',hr⟩=>?_
  subst hr
  have:=Zil h hx hm'
  exact Zf ⟨m',⟨by have:=this.len;omega,this.all,this.asc,this.pl⟩,rfl⟩
theorem s37 (l:List Zs) (n:Nat) (hn:n≤60) (h:FOk l n) (root copy:Bool) (src core slot kind base bits count rights op:Int) (h1:1≤op) (h2:op≤40) :
  Ret (fun r=>∃ m,FOk m (n+3)∧r=m.map Zd) (g37 (l.map Zd) root src core slot kind base bits count rights copy op):=by
 have hl:=h.len
 rw [ZnH]
 refine Zz (place core 4 (by omega) (by omega)) fun c hc=>Zz (place slot 8 (by omega) (by omega)) fun s hs=>?_
 refine Zb (fun _=>Zr7 l n hn h c s op base bits hc.1 hc.2 hs.1 hs.2 h1 h2) fun _=>?_
 refine Zb (fun _=>Zr7 l n hn h c s op base bits hc.1 hc.2 hs.1 hs.2 h1 h2) fun h3=>?_
 simp only [CQ,List.length_map] at h3
 rw [List.length_map]
 refine Zz (place src _ (by omega) (by omega)) fun i hi=>?_
 have hil:i.toNat < l.length:=by omega
 refine Kv hi.1 hil ?_
 simp only [Yb,d2,d4,d8,d16]
 have he:=h.all _ (List.getElem_mem hil)
 have ho:=Jj he.ok
 generalize l[i.toNat]=e at he ho
 refine Zz (place rights 8 (by omega) (by omega)) fun r28 _=>?_
 rw [s81,Option.bind_some]
 refine Zb (fun _=>?_) fun _=>?_
 ·refine Zz (place kind 6 (by omega) (by omega)) fun r36 h36=>Zz (place bits 10 (by omega) (by omega)) fun r37 h37=>?_
  have e1:iop .add .i64 6 r37=6+r37:=YU (by omega) (by omega)
  have e2:iop .sub .i64 (iop .add .i64 1 r36) 1=r36:=by rw [YU (by omega) (by omega),ZjB (by omega) (by omega)];omega
  rw [e1,e2]
  refine Wz (l:=[6+r37,12,12,6,10,16]) h36.1 (by simp;omega) ?_
  have hb:∀ x∈[6+r37,12,12,6,10,16],0≤x∧x≤16:=by
   intro x hx
   simp only [List.mem_cons,List.not_mem_nil,or_false] at hx
   omega
  have hb':=hb _ (List.getElem_mem (show r36.toNat < [6+r37,12,12,6,10,16].length by simp;omega))
  generalize [6+r37,12,12,6,10,16][r36.toNat]'(by simp;omega)=r38 at hb'
  refine Zz (place rights 2 (by omega) (by omega)) fun r39 _=>Zz (place base 8 (by omega) (by omega)) fun r40 _=>?_
  refine Ja (by rw [YW (by omega) (by omega)];omega) (Zz (place count 3 (by omega) (by omega)) fun r41 h41=>?_)
  rw [s82,Option.bind_some]
  refine Zb (fun _=>Zf ⟨l,⟨by omega,h.all,h.asc,h.pl⟩,rfl⟩) fun _=>?_
  obtain ⟨cs,hcs,hcl⟩:=ZiV ⟨e.node.cap.kind,e.node.cap.base,e.node.cap.bits,e.node.cap.rights,e.node.cap.width,e.node.cap.level,e.node.cap.device⟩ (iop .add .i64 1 r36) r38 r39 32 (iop .shl .i64 r40 (IntKind.wrap .u64 r38)) (iop .add .i64 1 r41)
  rw [hcs]
  have e3:iop .add .i64 1 r41=1+r41:=YU (by omega) (by omega)
  rw [e3] at hcl
  refine Zz (s79 l (by omega) e.node.id cs (by omega)) fun b _=>?_
  refine Zb (fun _=>Zf ⟨l,⟨by omega,h.all,h.asc,h.pl⟩,rfl⟩) fun _=>?_
  exact l37 e.node (by omega) he.o2 he.pa true op c s hc.1 hc.2 hs.1 hs.2 h1 h2 cs (by omega) l n hn h
 ·exact l37 e.node (by omega) he.o2 he.pa true op c s hc.1 hc.2 hs.1 hs.2 h1 h2 [⟨e.node.cap.kind,e.node.cap.base,e.node.cap.bits,iop .and .i64 e.node.cap.rights r28,e.node.cap.width,e.node.cap.level,e.node.cap.device⟩] (by simp) l n hn h
def Zlt (s:ZkV):Bool×Int×Int×Int×Int×Int×Int×Int×Int×Bool:=(s.root,s.src,s.core,s.slot,s.kind,s.base,s.bits,s.count,s.rights,s.copy)
theorem Zgw {γ:Type} {l:List ZkV} {i:Nat} (h:i < l.length) (k:(Bool×Int×Int×Int×Int×Int×Int×Int×Int×Bool)→Option γ):Zu (l.map V5) (i:Int) [.bool,.int .i64,.int .i64,.int .i64,.int .i64,.int .i64,.int .i64,.int .i64,.int .i64,.bool] k=k (Zlt l[i]):=Vt (f:=V5) (sh:=[.bool,.int .i64,.int .i64,.int .i64,.int .i64,.int .i64,.int .i64,.int .i64,.int .i64,.bool]) (v:=Zlt) (fun _=>rfl) h k
theorem s7 (l:List ZkV) (hn:l.length < 2^63):Ret (fun r=>∃ m,FOk m 30∧r=m.map Zd) (g7 (l.map V5)):=by
 rw [Zq9]
 have key:∀ (d i fuel:Nat) (m:List Zs),i+d=41→d < fuel→FOk m 30→Ret (fun r=>∃ m,FOk m 30∧r=m.map Zd) (ZoR fuel (l.map V5) (m.map Zd) (i:Int)):=by
  intro d
  induction d with
  | zero =>
   intro i fuel m hi hf hm
   obtain ⟨q,rfl⟩:∃ q,fuel=q+1:=⟨fuel-1,by omega⟩
   rw [Zg1]
   refine Zb (fun _=>?_) fun _=>Zf ⟨m,hm,rfl⟩
   rw [if_neg (by simp only [CQ];omega)]
   exact Zf ⟨m,hm,rfl⟩
  | succ d ih =>
   intro i fuel m hi hf hm
   obtain ⟨q,rfl⟩:∃ q,fuel=q+1:=⟨fuel-1,by omega⟩
   rw [Zg1]
   refine Zb (fun h1=>?_) fun _=>Zf ⟨m,hm,rfl⟩
   refine Zb (fun h2=>?_) fun _=>Zf ⟨m,hm,rfl⟩
   refine Zb (fun h3=>?_) fun _=>Zf ⟨m,hm,rfl⟩
   simp only [CQ,List.length_map] at h1 h2 h3
   have hil:i < l.length:=by omega
   refine ZA (Zgw hil _) ?_
   simp only [Zlt]
   have e:iop .add .i64 (i:Int) 1=((i+1:Nat):Int):=ZdS hil hn
   rw [e]
   refine Zz (s37 m 27 (by omega) ⟨by omega,hm.all,hm.asc,hm.pl⟩ _ _ _ _ _ _ _ _ _ _ _ (by omega) (by omega)) fun r ⟨m',hm',hr⟩=>?_
   subst hr
   exact ih (i+1) q m' (by omega) (by omega) hm'
 exact key 41 0 JD [] rfl (by have:=@Ze9 41 (by omega);omega) ⟨by simp,by simp,List.Pairwise.nil,List.Pairwise.nil⟩
end Go.Proofs.YtlgmnddelljbmaaGreat
end

section
namespace Go.Proofs.YtlgmnddelljbmaaGreat
open Go Go.AM
set_option linter.unusedSimpArgs false
set_option linter.unusedVariables false
set_option maxRecDepth 100000
theorem Zmj (a b c:Int):Zmc a b c=some (Vp ⟨a,b,c⟩):=by
 rw [Zk2]
 repeat' split
 all_goals (refine congrArg some ?_;rw [Z2];simp only [Vp,CQ] at *; omega)
theorem Zsl (a:Int):ZoH a=some false:=by
 rw [Zlx]
 simp [cop]
theorem ZsH (a b:Int):Zmv a b=some (Zki a b):=by
 rw [ZkB]
 simp only [Zsl,Option.bind_some,Bool.false_eq_true,if_false]
 by_cases h1:a < b
 ·rw [if_pos (by simp only [CQ];omega),Zki,if_pos h1]
 ·by_cases h2:b < a
  ·rw [if_neg (by simp only [CQ];omega),if_pos (by simp only [CQ];omega),Zki,if_neg h1,if_pos h2]
  ·rw [if_neg (by simp only [CQ];omega),if_neg (by simp only [CQ];omega),Zki,if_neg h1,if_neg h2]
theorem ZsC (x y z:Int):ZqA (((E0++[[AV.val (.int .i64 x)]])++[[AV.val (.int .i64 y)]])++[[AV.val (.int .i64 z)]])=some (Vf x y z):=by
 obtain ⟨f,hf⟩:=Zqy
 have e:(((E0++[[AV.val (.int .i64 x)]])++[[AV.val (.int .i64 y)]])++[[AV.val (.int .i64 z)]]) = [Zhb x,Zhb y,Zhb z]:=rfl
 have e1:iop .add .i64 0 1=1:=by decide
 have e2:iop .add .i64 1 1=2:=by decide
 have e3:iop .add .i64 2 1=3:=by decide
 have hl:(([Zhb x,Zhb y,Zhb z] : List (List AV)).length:Int)=3:=rfl
 rw [Zlf,e,hf,hl]
 rw [Vr,if_pos (by decide),KG (sh:=[.int .i64]) (cs:=Zhb x) (r:=x) _ (by decide) rfl rfl]
 by_cases hx:x=0
 ·rw [if_neg (by simp only [CQ];omega),e1,Vr,if_pos (by decide),KG (sh:=[.int .i64]) (cs:=Zhb y) (r:=y) _ (by decide) rfl rfl]
  by_cases hy:y=0
  ·rw [if_neg (by simp only [CQ];omega),e2,Vr,if_pos (by decide),KG (sh:=[.int .i64]) (cs:=Zhb z) (r:=z) _ (by decide) rfl rfl]
   by_cases hz:z=0
   ·rw [if_neg (by simp only [CQ];omega),e3,Vr,if_neg (by decide)]
    simp [Vf,hx,hy,hz]
   ·rw [if_pos (by simp only [CQ];omega)]
    simp [Vf,hx,hy]
  ·rw [if_pos (by simp only [CQ];omega)]
   simp [Vf,hx,hy]
 ·rw [if_pos (by simp only [CQ];omega)]
  simp [Vf,hx]
theorem ZsY (a b c d e f:Int):ZqH a b c d e f=some (Vf (Zki a d) (Zki b e) (Zki c f)):=by
 rw [Zkz]
 simp only [ZsH,Option.bind_some,ZsC]
theorem s86 (a b c d e f:Int):g86 a b c d e f=some (Zmf a b c d e f):=by
 rw [Zmp,ZsY,Option.bind_some]
 refine congrArg some ?_
 rw [Z2]
 simp only [Zmf,CQ,Zki,Vf]
 repeat' split
 all_goals omega
theorem Zsh {l:List Id} (hl:l.length < 2^63) (a b c:Int):∀ (j i fuel:Nat),l.length=i+j→j < fuel→∃ r,Zds fuel (Zc l) a b c (l.length:Int) i=some r∧(0≤r↔(⟨a,b,c⟩:Id)∈l.drop i):=by
 intro j
 induction j with
 | zero =>
  intro i fuel h hf
  obtain ⟨f,rfl⟩:∃ f,fuel=f+1:=⟨fuel-1,by omega⟩
  refine ⟨-1,by rw [Zdl,if_neg (by simp only [CQ];omega)],?_⟩
  rw [List.drop_of_length_le (by omega)]
  simp
 | succ j ih =>
  intro i fuel h hf
  obtain ⟨f,rfl⟩:∃ f,fuel=f+1:=⟨fuel-1,by omega⟩
  have hi:i < l.length:=by omega
  have hat:l[(i:Int).toNat]? = some l[i]:=by simp
  have a4:iop .add .i64 i 1=((i+1:Nat):Int):=by rw [YU (by omega) (by omega)];omega
  rw [Zdl,if_pos (by simp only [CQ];omega),Vn _ (by omega) hat,a4,List.drop_eq_getElem_cons hi]
  by_cases he:(⟨a,b,c⟩:Id)=l[i]
  ·refine ⟨i,?_,?_⟩
   ·rw [if_pos]
    rw [YO]
    exact he
   ·rw [List.mem_cons]
    exact ⟨fun _=>.inl he,fun _=>by omega⟩
  ·obtain ⟨r,h1,h2⟩:=ih (i+1) f (by omega) (by omega)
   refine ⟨r,?_,?_⟩
   ·rw [if_neg,h1]
    rw [YO]
    exact he
   ·rw [h2,List.mem_cons]
    simp [he]
theorem ZrC (l:List Id) (hl:l.length < 2^63) (a b c:Int):Zoy (Zc l) a b c=some (l.contains ⟨a,b,c⟩):=by
 obtain ⟨r,h1,h2⟩:=Zsh hl a b c l.length 0 JD (by omega) (V2 (by omega))
 rw [ZlV,ZlG,Z4]
 have h1':Zds JD (Zc l) a b c (l.length:Int) 0=some r:=h1
 rw [h1',Option.bind_some]
 refine congrArg some ?_
 rw [Z2]
 simp only [CQ,List.contains_iff_mem]
 rw [List.drop_zero] at h2
 exact h2
theorem l93 (n:WF) (hl:n.path.length < 2^63):∀ (j i fuel:Nat),n.path.length=i+j→j < fuel→
  Zi8 fuel n.id.core n.id.op n.id.part (Zc n.path) n.cap.kind n.cap.base n.cap.bits n.cap.rights n.cap.width n.cap.level n.cap.device (Zc n.path) (n.path.length:Int) i=some ((List.range' i j).all (Ki n)):=by
 intro j
 induction j with
 | zero =>
  intro i fuel h hf
  obtain ⟨f,rfl⟩:∃ f,fuel=f+1:=⟨fuel-1,by omega⟩
  rw [Ze6,if_neg (by simp only [CQ];omega)]
  rfl
 | succ j ih =>
  intro i fuel h hf
  obtain ⟨f,rfl⟩:∃ f,fuel=f+1:=⟨fuel-1,by omega⟩
  have hi:i < n.path.length:=by omega
  have hat:n.path[(i:Int).toNat]? = some n.path[i]:=by simp
  have a4:iop .add .i64 i 1=((i+1:Nat):Int):=by rw [YU (by omega) (by omega)];omega
  have hp:Ki n i=(Vp n.path[i]&&decide (n.path[i]≠n.id)&&!(n.path.take i).contains n.path[i]):=by
   unfold Ki
   rw [List.getElem?_eq_getElem hi]
  have hlt:(n.path.take i).length < 2^63:=by rw [List.length_take];omega
  rw [Ze6,if_pos (by simp only [CQ];omega),Vn _ (by omega) hat,a4,List.range'_succ,List.all_cons,hp]
  simp only [Zmj,Option.bind_some]
  cases h1:Vp n.path[i] with
  | false => simp
  | true =>
   rw [if_neg (by simp)]
   by_cases h2:n.path[i]=n.id
   ·rw [if_pos (by rw [YO];exact h2)]
    simp [h2]
   ·rw [if_neg (by rw [YO];exact h2),Zx (by omega),Zx (by rw [Z4];omega),Int.toNat_natCast,Zfv,ZrC _ hlt,Option.bind_some]
    cases h3:(n.path.take i).contains n.path[i] with
    | true => simp
    | false =>
     rw [if_neg (by simp)]
     have:=ih (i+1) f (by omega) (by omega)
     rw [this]
     simp [h2]
theorem s93 (n:WF) (hl:n.path.length < 2^63):g93 n.id.core n.id.op n.id.part (Zc n.path) n.cap.kind n.cap.base n.cap.bits n.cap.rights n.cap.width n.cap.level n.cap.device=some (JA n):=by
 rw [ZnB]
 simp only [Zmj,ZqW,Option.bind_some,Z4]
 unfold JA
 cases h1:Vp n.id with
 | false => simp [show (⟨n.id.core, n.id.op, n.id.part⟩ : Id) = n.id from rfl, h1]
 | true =>
  cases h2:Yi n.cap with
  | false => simp [show (⟨n.id.core, n.id.op, n.id.part⟩ : Id) = n.id from rfl, h1, show (⟨n.cap.kind, n.cap.base, n.cap.bits, n.cap.rights, n.cap.width, n.cap.level, n.cap.device⟩ : Cap) = n.cap from rfl, h2]
  | true =>
   rw [if_neg (by simp),if_neg (by simp)]
   by_cases h3:n.path.length≤8
   ·rw [if_neg (by simp only [CQ];omega)]
    have:=l93 n hl n.path.length 0 JD (by omega) (V2 (by omega))
    have e:(List.range' 0 n.path.length)=List.range n.path.length:=(List.range_eq_range' ..).symm
    rw [e] at this
    refine this.trans ?_
    simp [h3]
   ·rw [if_pos (by simp only [CQ];omega)]
    simp [h3]
end Go.Proofs.YtlgmnddelljbmaaGreat
end

section
namespace Go.Proofs.YtlgmnddelljbmaaGreat
open Go Go.AM
set_option linter.unusedSimpArgs false
set_option linter.unusedVariables false
set_option maxRecDepth 100000
theorem Ya {σ γ:Type} {P:γ→Prop} {F:Nat→σ→Int→Option γ} (n:Nat) (J:Nat→σ→Prop) (hn:n < 1000)
  (step:∀ (k i:Nat) (s:σ),i≤n→J i s→(i < n→∀ s',J (i+1) s'→Ret P (F k s' ((i+1:Nat):Int)))→Ret P (F (k+1) s (i:Int))) (s:σ) (h:J 0 s):Ret P (F JD s 0):=by
 refine VS (F:=F) (n:=n) J (by omega) (fun k i s hi hj ih=>step k i s (by omega) hj fun _=>ih) (fun k s hj=>step k n s (Nat.le_refl _) hj fun h=>absurd h (Nat.lt_irrefl _)) s h
theorem Zem {i n:Nat} (h:i≤n) (hn:n < 1000):iop .add .i64 (i:Int) 1=((i+1:Nat):Int):=by
 rw [YU (by omega) (by omega)];omega
theorem ZsT {a b c:Bool} (h:(a&&(b&&(c&&true)))=true):a=true∧b=true∧c=true:=by simpa using h
theorem Z5 {γ:Type} {l:List Zs} {i:Nat} (h:i < l.length) (k:ShsT hs18→Option γ):Zu (l.map Zd) (i:Int) hs18 k=k (Yb l[i]):=ZP h k
theorem s84 (l:List Zs) (hl:l.length < 1000) (i:Id) :
  Ret (fun r=>(r=(0,false)∧∀ e∈l,e.node.id≠i)∨∃ k,∃ h:k < l.length,r=((k:Int),true)∧l[k].node.id=i∧∀ j (hj:j < l.length),j < k→l[j].node.id≠i) (g84 (l.map Zd) i.core i.op i.part):=by
 rw [ZmP,List.length_map]
 refine Ya (F:=fun k (_:Unit) z=>Zj2 k i.core i.op i.part (l.map Zd) (l.length:Int) z) l.length (fun k _=>∀ j (hj:j < l.length),j < k→l[j].node.id≠i) hl (fun k j _ hj hJ next=>?_) () (fun j _ h=>absurd h (Nat.not_lt_zero j))
 refine ZA (ZjH ..) (Zb (fun h=>?_) fun h=>Zf (.inl ⟨rfl,fun e he=>?_⟩))
 ·simp only [CQ] at h
  have hj':j < l.length:=by omega
  refine ZA (Z5 hj' _) (Zb (fun h2=>Zf (.inr ⟨j,hj',rfl,?_,hJ⟩)) fun h2=>?_)
  ·obtain ⟨h3,h4,h5⟩:=ZsT h2
   simp only [Yb,d2,d4,d8,d16,CQ] at h3 h4 h5
   cases hi:l[j].node.id;cases i;simp_all
  ·rw [Zem hj hl]
   refine next hj' () fun m hm hmj=>?_
   by_cases hmj':m=j
   ·subst hmj'
    intro he
    apply h2
    simp [Yb,d2,d4,d8,d16,he,CQ]
   ·exact hJ m hm (by omega)
 ·simp only [CQ] at h
  obtain ⟨m,hm,rfl⟩:=List.mem_iff_getElem.1 he
  exact hJ m hm (by omega)
theorem ZsK (l:List Zs) (hl:l.length < 1000) (i:Id) (h:∀ e∈l,e.node.id≠i):g84 (l.map Zd) i.core i.op i.part=some (0,false):=by
 obtain ⟨r,e,⟨rfl,_⟩ | ⟨k,hk,_,h2,_⟩⟩:=s84 l hl i
 ·exact e
 ·exact absurd h2 (h _ (List.getElem_mem hk))
theorem Zr8 (l:List Zs) (hl:l.length < 1000) (ha:l.Pairwise fun a b=>lte a b=true) (k:Nat) (hk:k < l.length):g84 (l.map Zd) l[k].node.id.core l[k].node.id.op l[k].node.id.part=some ((k:Int),true):=by
 obtain ⟨r,e,⟨_,h⟩ | ⟨j,hj,rfl,h2,h3⟩⟩:=s84 l hl l[k].node.id
 ·exact absurd rfl (h _ (List.getElem_mem hk))
 ·have hne:∀ a b (h1:a < l.length) (h2:b < l.length),a < b→l[a].node.id≠l[b].node.id:=by
   intro a b h1 h2 hab he
   have:=List.pairwise_iff_getElem.1 ha a b h1 h2 hab
   rw [W6,he] at this
   omega
  have:j=k:=by
   rcases Nat.lt_trichotomy j k with h | h | h
   ·exact absurd h2 (hne j k hj hk h)
   ·exact h
   ·exact absurd rfl (h3 k hk h)
  subst this
  exact e
theorem ZsR (l:List Zs) (hl:l.length < 1000) (c s:Int) (hno:∀ e∈l,¬ (e.core=c∧e.slot=s)):g85 (l.map Zd) c s=some (0,false):=by
 have key:Ret (fun r=>r=((0:Int),false)) (g85 (l.map Zd) c s):=by
  rw [Zns,List.length_map]
  refine Ya (F:=fun k (_:Unit) z=>Zgd k c s (l.map Zd) (l.length:Int) z) l.length (fun _ _=>True) hl (fun k i _ hi _ next=>?_) () trivial
  refine ZA (ZjV ..) (Zb (fun h=>?_) fun _=>Zf rfl)
  simp only [CQ] at h
  have hi':i < l.length:=by omega
  have hnx:Ret (fun r=>r=((0:Int),false)) (Zgd k c s (l.map Zd) (l.length:Int) (iop .add .i64 (i:Int) 1)):=by rw [Zem hi hl];exact next hi' () trivial
  refine ZA (Z5 hi' _) (Zb (fun h2=>Zb (fun h3=>?_) fun _=>hnx) fun _=>hnx)
  simp only [Yb,CQ] at h2 h3
  exact (hno _ (List.getElem_mem hi') ⟨h2,h3⟩).elim
 obtain ⟨r,e,rfl⟩:=key
 exact e
theorem Zsb (i j:Id):g86 i.core i.op i.part j.core j.op j.part=some (Zpg i j):=s86 ..
theorem ZsL (x:LL) (h:x.length < 1000):ZpZ x=some x:=by
 rw [Zlu]
 have hr:Yt E0 x 120:=Jr (by simp;omega) (by decide)
 cases x with
 | nil => simp [ZiR, ZV, hr]
 | cons a x => simp [ZiR, ZV, hr]
theorem s51 (l:List Zs) (h:Zc0 l) (hl:l.length < 1000):g51 (l.map Zd)=some (l.map Zd):=by
 have key:Ret (fun r=>r=l.map Zd) (g51 (l.map Zd)):=by
  rw [Zmr]
  refine Za (ZsL _ (by simpa using hl)) ?_
  rw [List.length_map]
  refine Ya (F:=fun k (s:LL) i=>Zjt k s (l.length:Int) i) l.length (fun _ s=>s=l.map Zd) hl (fun k i s hi hs next=>?_) (l.map Zd) rfl
  subst hs
  refine ZA (Zjo ..) (Zb (fun h=>?_) fun _=>Zf rfl)
  simp only [CQ] at h
  have hi':i < l.length:=by omega
  have r1:(0:Int)≤(i:Int):=Int.natCast_nonneg i
  have r2:(i:Int) < ((l.map Zd).length:Int):=by rw [List.length_map];omega
  have hp:=Zc0.path ‹Zc0 l› l[i] (List.getElem_mem hi')
  refine Ja r1 (Ja r2 (ZA (Z5 hi' _) (Za (s87 l[i].node (by omega)) (Ja r1 (Ja r2 (Ja r1 (Ja r2 ?_)))))))
  rw [Zem hi hl]
  refine next hi' _ (ZjZ Zd l i 2 _ fun x hx=>?_)
  rw [List.getElem?_eq_getElem hi',Option.some.injEq] at hx
  subst hx
  rfl
 obtain ⟨r,e,rfl⟩:=key
 exact e
def Zby (l:List Zs) (x:Zs):Nat:=WV (fun f=>lte x f) l
def VZ (l:List Zs) (x:Zs):List Zs:=l.take (Zby l x)++x::l.drop (Zby l x)
theorem Zn7 {α:Type} (q:α→Bool) (l:List α) {i:Nat} (h:i < l.length) (h1:q l[i]=true) (h2:∀ j (hj:j < l.length),j < i→q l[j]=false):WV q l=i:=by
 have hle:=Kj q l
 rcases Nat.lt_trichotomy (WV q l) i with hh | hh | hh
 ·have:=Zbq q l (by omega)
  rw [h2 _ (by omega) hh] at this
  cases this
 ·exact hh
 ·have:=Zbx q l i h hh
  rw [h1] at this
  cases this
theorem Ze5 {α:Type} (q:α→Bool) (l:List α) (h:∀ j (hj:j < l.length),q l[j]=false):WV q l=l.length:=by
 have hle:=Kj q l
 rcases Nat.lt_or_ge (WV q l) l.length with hh | hh
 ·have:=Zbq q l hh
  rw [h _ hh] at this
  cases this
 ·omega
theorem s38 (l:List Zs) (h:Zc0 l) (hl:l.length < 900) (x:Zs) (hx:x.node.path.length≤20) (h1:∀ e∈l,e.node.id≠x.node.id) (h2:∀ e∈l,¬ (e.core=x.core∧e.slot=x.slot)) :
  g38 (l.map Zd) x.core x.slot x.node.id.core x.node.id.op x.node.id.part (Zc x.node.path) x.node.cap.kind x.node.cap.base x.node.cap.bits x.node.cap.rights x.node.cap.width x.node.cap.level x.node.cap.device=some ((VZ l x).map Zd,true):=by
 have ins:∀ (j:Nat),j≤l.length→g88 (l.map Zd) (j:Int) (E0++[Zd x])=some ((l.take j++x::l.drop j).map Zd):=by
  intro j hj
  rw [ZmC]
  unfold ZpX
  rw [Zx (Int.natCast_nonneg j),Zx (by rw [List.length_map];omega),Zx (by simp),Zx (Jr (by simp;omega) (by decide))]
  simp [List.map_take,List.map_drop]
 have key:Ret (fun r=>r=((VZ l x).map Zd,true)) (g38 (l.map Zd) x.core x.slot x.node.id.core x.node.id.op x.node.id.part (Zc x.node.path) x.node.cap.kind x.node.cap.base x.node.cap.bits x.node.cap.rights x.node.cap.width x.node.cap.level x.node.cap.device):=by
  rw [ZmM]
  refine Za (ZsK l (by omega) x.node.id h1) (Za (ZsR l (by omega) _ _ h2) (Zb (fun h=>by cases h) fun _=>Zb (fun h=>by cases h) fun _=>?_))
  rw [List.length_map]
  refine Ya (F:=fun k (_:Unit) i=>ZjC k (l.map Zd) x.core x.slot x.node.id.core x.node.id.op x.node.id.part (Zc x.node.path) x.node.cap.kind x.node.cap.base x.node.cap.bits x.node.cap.rights x.node.cap.width x.node.cap.level x.node.cap.device (l.length:Int) (l.map Zd) (l.length:Int) i) l.length (fun i _=>∀ j (hj:j < l.length),j < i→lte x l[j]=false) (by omega) (fun k i _ hi hJ next=>?_) () (fun j _ h=>absurd h (Nat.not_lt_zero j))
  refine ZA (Zji ..) (Zb (fun h3=>?_) fun h3=>?_)
  ·simp only [CQ] at h3
   have hi':i < l.length:=by omega
   refine ZA (Z5 hi' _) (Za (Zsb x.node.id l[i].node.id) (Zb (fun h4=>?_) fun h4=>?_))
   ·have hp:Zby l x=i:=Zn7 _ l hi' h4 hJ
    refine Za (s51 l h (by omega)) (Za (s87 x.node (by omega)) (Za (ins i (by omega)) (Zf ?_)))
    rw [VZ,hp]
   ·rw [Zem hi (by omega)]
    refine next hi' () fun m hm hmi=>?_
    by_cases hmi':m=i
    ·subst hmi';simpa [lte] using h4
    ·exact hJ m hm (by omega)
  ·simp only [CQ] at h3
   have hp:Zby l x=l.length:=Ze5 _ l fun j hj=>hJ j hj (by omega)
   refine Za (s51 l h (by omega)) (Za (s87 x.node (by omega)) (Za (ins l.length (Nat.le_refl _)) (Zf ?_)))
   rw [VZ,hp]
 obtain ⟨r,e,rfl⟩:=key
 exact e
theorem s46 (l:List Zs) (h:Zc0 l) (hl:l.length < 900) (ha:l.Pairwise fun a b=>lte a b=true) (k:Nat) (hk:k < l.length) (i:Id) (hi:i=l[k].node.id):g46 (l.map Zd) i.core i.op i.part=some ((l.take k++l.drop (k+1)).map Zd,true):=by
 subst hi
 have e:iop .add .i64 (k:Int) 1=((k+1:Nat):Int):=Zem (n:=900) (by omega) (by omega)
 have hd:Zqg (l.map Zd) (k:Int) ((k+1:Nat):Int)=some ((l.take k++l.drop (k+1)).map Zd):=by
  rw [Zkt]
  unfold ZnY
  rw [Zx (Int.natCast_nonneg k),Zx (by omega),Zx (by rw [List.length_map];omega)]
  simp [List.map_take,List.map_drop]
 rw [Zne,Zr8 l (by omega) ha k hk]
 simp only [Option.bind_some,Bool.not_true,Bool.false_eq_true,if_false]
 rw [s51 l h (by omega),Option.bind_some,e,hd]
 rfl
theorem ZlW (l:List Zs) (x:Zs):(VZ l x).take (Zby l x)++(VZ l x).drop (Zby l x+1)=l:=by
 have hle:Zby l x≤l.length:=Kj _ _
 have e1:(l.take (Zby l x)).length=Zby l x:=by rw [List.length_take];omega
 unfold VZ
 rw [List.take_left' e1,← List.drop_drop,List.drop_left' e1]
 simp
theorem Znr (l:List Zs) (x:Zs):(VZ l x)[Zby l x]? = some x:=by
 have hle:Zby l x≤l.length:=Kj _ _
 have e1:(l.take (Zby l x)).length=Zby l x:=by rw [List.length_take];omega
 unfold VZ
 rw [List.getElem?_append_right (by omega),e1]
 simp
theorem Zeg (l:List Zs) (x:Zs):(VZ l x).length=l.length+1:=by
 have hle:Zby l x≤l.length:=Kj _ _
 simp [VZ,List.length_take];omega
theorem Zfc (l:List Zs) (x:Zs) (h1:∀ e∈l,e.node.id≠x.node.id) (h2:∀ e∈l,¬ (e.core=x.core∧e.slot=x.slot)):Zlk l x (VZ l x):=by
 refine ⟨Zby l x,Kj _ _,fun j hj h=>Zbx _ l j hj h,fun h=>Zbq (fun f=>lte x f) l h,?_,?_,by simp [VZ]⟩
 ·rw [List.any_eq_false];intro e he;simpa [idE] using h1 e he
 ·rw [List.any_eq_false];intro e he;have:=h2 e he;simp only [plE,Bool.and_eq_true,decide_eq_true_eq];exact this
theorem ZjE (l:List Zs) (x:Zs) (h:∀ e∈l,lte e x=true):VZ l x=l++[x]:=by
 have hp:Zby l x=l.length:=Ze5 _ l fun j hj=>by
  have:=h _ (List.getElem_mem hj)
  rw [W6] at this
  rw [← Bool.not_eq_true,W6]
  omega
 rw [VZ,hp];simp
end Go.Proofs.YtlgmnddelljbmaaGreat
end

section
namespace Go.Proofs.YtlgmnddelljbmaaGreat
open Go Go.AM
set_option linter.unusedSimpArgs false
set_option linter.unusedVariables false
set_option maxRecDepth 100000
theorem ZmF (a b:Int):iop .and .i64 a b=(BitVec.ofInt 64 a&&& BitVec.ofInt 64 b).toInt:=by
 show IntKind.wrap .i64 (((BitVec.ofInt 64 a&&& BitVec.ofInt 64 b).toNat:Nat):Int)=_
 generalize BitVec.ofInt 64 a&&& BitVec.ofInt 64 b=x
 have:=x.isLt
 rw [BitVec.toInt_eq_toNat_cond]
 simp only [IntKind.wrap]
 have hs:IntKind.i64.signed=true:=rfl
 have hb:IntKind.i64.bits=64:=rfl
 have h64:(2:Nat)^64=18446744073709551616:=by decide
 have h65:(2:Int)^64=18446744073709551616:=by decide
 have h63:(2:Int)^(64-1)=9223372036854775808:=by decide
 simp only [hs,hb,if_true,Bool.true_and,decide_eq_true_eq,h65,h63]
 rw [h64] at this ⊢
 by_cases hx:2*x.toNat < 18446744073709551616
 ·rw [if_pos hx];omega
 ·rw [if_neg hx];omega
theorem Zlg {a:Int} (b:Int) (h0:0≤a) (h1:a≤7):0≤iop .and .i64 a b∧iop .and .i64 a b≤7:=by
 have h:=ZmF a b
 have hle:(BitVec.ofInt 64 a&&& BitVec.ofInt 64 b).toNat≤(BitVec.ofInt 64 a).toNat:=by
  rw [BitVec.toNat_and]
  exact Nat.and_le_left
 have ha:(BitVec.ofInt 64 a).toNat≤7:=by
  rw [BitVec.toNat_ofInt]
  omega
 rw [h,BitVec.toInt_eq_toNat_cond]
 split<;>omega
theorem Zh7 {c:Cap} (h:Yi c=true):0≤c.rights∧c.rights≤7:=by
 simp only [Yi,Bool.and_eq_true,decide_eq_true_eq] at h
 exact h.1.1.2
theorem Zg6 {c:Cap} (h:Yi c=true) (m:Int):Yi { c with rights:=iop .and .i64 c.rights m } = true:=by
 obtain ⟨h1,h2⟩:=Zh7 h
 have:=Zlg m h1 h2
 simp only [Yi,Bool.and_eq_true,decide_eq_true_eq] at h ⊢
 exact ⟨⟨⟨h.1.1.1,this⟩,h.1.2⟩,h.2⟩
def oT (es qs:LL) (r:Req) (p:Int) (w pa dm:LL):Qt13:=(0,0,16,false,es,qs,r.id.core,r.id.op,r.id.part,r.call.kind,r.call.slot,r.call.dest,r.call.core,r.call.mask,r.call.object,r.call.bits,r.call.level,r.call.offset,r.call.count,r.call.index,r.call.addr,r.region,r.width,r.src.id.core,r.src.id.op,r.src.id.part,(Zc r.src.path),r.src.cap.kind,r.src.cap.base,r.src.cap.bits,r.src.cap.rights,r.src.cap.width,r.src.cap.level,r.src.cap.device,p,w,pa,dm)
def mM (k to slot:Int) (i:Id) (err:Int) (st:Bool) (nodes:LL):List AV:=[I k,I 0,I 0,I to,I 0,I 0,I slot,I i.core,I i.op,I i.part,I err,B st]++List.replicate 20 (I 0)++[.slice false 3 E0]++List.replicate 6 (I 0)++[B false,.slice false 3 E0,.slice false 11 nodes,.slice false 1 E0,.slice false 2 E0,I 0,I 0,.slice false 1 E0,.slice false 1 E0,.slice false 15 E0,.slice false 28 E0,.slice false 4 E0,.slice false 2 E0,.slice false 13 E0,.slice false 3 E0,I 0,I 0,.slice false 1 E0,.slice false 1 E0,.slice false 15 E0,.slice false 28 E0,.slice false 4 E0,.slice false 2 E0,.slice false 13 E0,.slice false 3 E0,B false,I 0,.slice false 1 E0,.slice false 1 E0,.slice false 15 E0,.slice false 28 E0,.slice false 4 E0,.slice false 2 E0,.slice false 13 E0,.slice false 3 E0]
theorem s47 (es qs:LL) (r:Req) (p:Int) (w pa dm:LL) (err:Int) (st:Bool) (nodes:LL):g47 0 0 16 false es qs r.id.core r.id.op r.id.part r.call.kind r.call.slot r.call.dest r.call.core r.call.mask r.call.object r.call.bits r.call.level r.call.offset r.call.count r.call.index r.call.addr r.region r.width r.src.id.core r.src.id.op r.src.id.part (Zc r.src.path) r.src.cap.kind r.src.cap.base r.src.cap.bits r.src.cap.rights r.src.cap.width r.src.cap.level r.src.cap.device p w pa dm err st nodes=some ([mM 2 r.id.core 0 r.id err st nodes],oT es qs r 5 E0 pa dm):=by
 rw [Zm1,ZhM]
 rfl
theorem ZrR (f:List Zs) (hl:f.length < 900) (ha:f.Pairwise fun a b=>lte a b=true) (k:Nat) (hk:k < f.length) (qs:LL) (r:Req) (p:Int) (w pa dm:LL) (h1:r.src.id=f[k].node.id) (h2:r.id.core=f[k].core) (h3:r.call.slot=f[k].slot):Zm0 0 0 16 false (f.map Zd) qs r.id.core r.id.op r.id.part r.call.kind r.call.slot r.call.dest r.call.core r.call.mask r.call.object r.call.bits r.call.level r.call.offset r.call.count r.call.index r.call.addr r.region r.width r.src.id.core r.src.id.op r.src.id.part (Zc r.src.path) r.src.cap.kind r.src.cap.base r.src.cap.bits r.src.cap.rights r.src.cap.width r.src.cap.level r.src.cap.device p w pa dm=some (f[k].node.id.core,f[k].node.id.op,f[k].node.id.part,(Zc f[k].node.path),f[k].node.cap.kind,f[k].node.cap.base,f[k].node.cap.bits,f[k].node.cap.rights,f[k].node.cap.width,f[k].node.cap.level,f[k].node.cap.device,true,0,0,16,false,(f.map Zd),qs,r.id.core,r.id.op,r.id.part,r.call.kind,r.call.slot,r.call.dest,r.call.core,r.call.mask,r.call.object,r.call.bits,r.call.level,r.call.offset,r.call.count,r.call.index,r.call.addr,r.region,r.width,r.src.id.core,r.src.id.op,r.src.id.part,(Zc r.src.path),r.src.cap.kind,r.src.cap.base,r.src.cap.bits,r.src.cap.rights,r.src.cap.width,r.src.cap.level,r.src.cap.device,p,w,pa,dm):=by
 have key:Ret (fun x=>x=((f[k].node.id.core,f[k].node.id.op,f[k].node.id.part,(Zc f[k].node.path),f[k].node.cap.kind,f[k].node.cap.base,f[k].node.cap.bits,f[k].node.cap.rights,f[k].node.cap.width,f[k].node.cap.level,f[k].node.cap.device,true,0,0,16,false,(f.map Zd),qs,r.id.core,r.id.op,r.id.part,r.call.kind,r.call.slot,r.call.dest,r.call.core,r.call.mask,r.call.object,r.call.bits,r.call.level,r.call.offset,r.call.count,r.call.index,r.call.addr,r.region,r.width,r.src.id.core,r.src.id.op,r.src.id.part,(Zc r.src.path),r.src.cap.kind,r.src.cap.base,r.src.cap.bits,r.src.cap.rights,r.src.cap.width,r.src.cap.level,r.src.cap.device,p,w,pa,dm):Qt8)) (Zm0 0 0 16 false (f.map Zd) qs r.id.core r.id.op r.id.part r.call.kind r.call.slot r.call.dest r.call.core r.call.mask r.call.object r.call.bits r.call.level r.call.offset r.call.count r.call.index r.call.addr r.region r.width r.src.id.core r.src.id.op r.src.id.part (Zc r.src.path) r.src.cap.kind r.src.cap.base r.src.cap.bits r.src.cap.rights r.src.cap.width r.src.cap.level r.src.cap.device p w pa dm):=by
  rw [Zlc]
  have e:=Zr8 f (by omega) ha k hk
  rw [← h1] at e
  refine Za e (Zb (fun h=>by cases h) fun _=>ZA (Z5 hk _) (Zb (fun h=>?_) fun _=>ZA (Z5 hk _) (Zb (fun h=>?_) fun _=>ZA (Z5 hk _) (Zf rfl))))
  ·simp only [Yb,CQ] at h;omega
  ·simp only [Yb,CQ] at h;omega
 obtain ⟨r,e,rfl⟩:=key
 exact e
theorem Zsf (n:WF) (hn:JA n=true) (i:Id) (hi:Vp i=true) (c:Cap) (hc:Yi c=true) (h1:i≠n.id) (h2:i∉n.path) (h8:n.path.length≠8) :
  Zmg n.id.core n.id.op n.id.part (Zc n.path) n.cap.kind n.cap.base n.cap.bits n.cap.rights n.cap.width n.cap.level n.cap.device i.core i.op i.part c.kind c.base c.bits c.rights c.width c.level c.device=some (i.core,i.op,i.part,Zc (n.path++[n.id]),c.kind,c.base,c.bits,c.rights,c.width,c.level,c.device,0):=by
 have hp:=(Jj hn).2.2.1
 have e206:ZoE n.id.core n.id.op n.id.part (Zc n.path) n.cap.kind n.cap.base n.cap.bits n.cap.rights n.cap.width n.cap.level n.cap.device i.core i.op i.part=some (n.path.contains i):=by rw [Zhz,ZrC _ (by omega)];rfl
 have key:Ret (fun x=>x=((i.core,i.op,i.part,Zc (n.path++[n.id]),c.kind,c.base,c.bits,c.rights,c.width,c.level,c.device,0):Qt23)) (Zmg n.id.core n.id.op n.id.part (Zc n.path) n.cap.kind n.cap.base n.cap.bits n.cap.rights n.cap.width n.cap.level n.cap.device i.core i.op i.part c.kind c.base c.bits c.rights c.width c.level c.device):=by
  rw [ZiB]
  refine Za (s93 n (by omega)) (Zb (fun h=>by rw [hn] at h;cases h) fun _=>Za (Zmj ..) (Zb (fun h=>?_) fun _=>Za (ZqW ..) (Zb (fun h=>?_) fun _=>Zb (fun h=>?_) fun _=>Za e206 (Zb (fun h=>?_) fun _=>Zb (fun h=>?_) fun _=>Za (Zr0 n.path (by omega)) (Ja (Jr (by simp [Zc];omega) (by decide)) (Zf ?_))))))
  ·rw [show (⟨i.core,i.op,i.part⟩:Id)=i from rfl,hi] at h;cases h
  ·rw [show (⟨c.kind,c.base,c.bits,c.rights,c.width,c.level,c.device⟩:Cap)=c from rfl,hc] at h;cases h
  ·rw [YO] at h;exact absurd h h1
  ·rw [List.contains_iff_mem] at h;exact absurd h h2
  ·exfalso;simp only [CQ,Z4] at h;omega
  ·simp [Zc,idc]
 obtain ⟨r,e,rfl⟩:=key
 exact e
theorem ZqS (n:WF) (hn:JA n=true) (i:Id) (hi:Vp i=true) (c:Cap) (hc:Yi c=true) (h1:i≠n.id) (h2:i∉n.path) (h8:n.path.length=8) :
  Zmg n.id.core n.id.op n.id.part (Zc n.path) n.cap.kind n.cap.base n.cap.bits n.cap.rights n.cap.width n.cap.level n.cap.device i.core i.op i.part c.kind c.base c.bits c.rights c.width c.level c.device=some (0,0,0,E0,0,0,0,0,0,0,false,9):=by
 have hp:=(Jj hn).2.2.1
 have e206:ZoE n.id.core n.id.op n.id.part (Zc n.path) n.cap.kind n.cap.base n.cap.bits n.cap.rights n.cap.width n.cap.level n.cap.device i.core i.op i.part=some (n.path.contains i):=by rw [Zhz,ZrC _ (by omega)];rfl
 have key:Ret (fun x=>x=((0,0,0,E0,0,0,0,0,0,0,false,9):Qt23)) (Zmg n.id.core n.id.op n.id.part (Zc n.path) n.cap.kind n.cap.base n.cap.bits n.cap.rights n.cap.width n.cap.level n.cap.device i.core i.op i.part c.kind c.base c.bits c.rights c.width c.level c.device):=by
  rw [ZiB]
  refine Za (s93 n (by omega)) (Zb (fun h=>by rw [hn] at h;cases h) fun _=>Za (Zmj ..) (Zb (fun h=>?_) fun _=>Za (ZqW ..) (Zb (fun h=>?_) fun _=>Zb (fun h=>?_) fun _=>Za e206 (Zb (fun h=>?_) fun _=>Zb (fun _=>Zf rfl) fun h=>?_))))
  ·rw [show (⟨i.core,i.op,i.part⟩:Id)=i from rfl,hi] at h;cases h
  ·rw [show (⟨c.kind,c.base,c.bits,c.rights,c.width,c.level,c.device⟩:Cap)=c from rfl,hc] at h;cases h
  ·rw [YO] at h;exact absurd h h1
  ·rw [List.contains_iff_mem] at h;exact absurd h h2
  ·exfalso;simp only [CQ,Z4] at h;omega
 obtain ⟨r,e,rfl⟩:=key
 exact e
def KT (r:Req) (n:WF) (t:Int):Zs:=⟨t,r.call.dest,KA n r.id { n.cap with rights:=iop .and .i64 n.cap.rights r.call.mask }⟩
theorem Zsx (f:List Zs) (hl:f.length < 900) (ha:f.Pairwise fun a b=>lte a b=true) (k:Nat) (hk:k < f.length) (qs:LL) (r:Req) (p:Int) (w pa dm:LL) (h1:r.src.id=f[k].node.id) (h2:r.id.core=f[k].core) (h3:r.call.slot=f[k].slot) (hn:JA f[k].node=true) (hi:Vp r.id=true) (h4:r.id≠f[k].node.id) (h5:r.id∉f[k].node.path) (hd:0≤r.call.dest∧r.call.dest < 64) (t:Int) (h8:f[k].node.path.length≠8) :
  Zk5 0 0 16 false (f.map Zd) qs r.id.core r.id.op r.id.part r.call.kind r.call.slot r.call.dest r.call.core r.call.mask r.call.object r.call.bits r.call.level r.call.offset r.call.count r.call.index r.call.addr r.region r.width r.src.id.core r.src.id.op r.src.id.part (Zc r.src.path) r.src.cap.kind r.src.cap.base r.src.cap.bits r.src.cap.rights r.src.cap.width r.src.cap.level r.src.cap.device p w pa dm t=some ([KT r f[k].node t].map Zd,0,0,0,16,false,(f.map Zd),qs,r.id.core,r.id.op,r.id.part,r.call.kind,r.call.slot,r.call.dest,r.call.core,r.call.mask,r.call.object,r.call.bits,r.call.level,r.call.offset,r.call.count,r.call.index,r.call.addr,r.region,r.width,r.src.id.core,r.src.id.op,r.src.id.part,(Zc r.src.path),r.src.cap.kind,r.src.cap.base,r.src.cap.bits,r.src.cap.rights,r.src.cap.width,r.src.cap.level,r.src.cap.device,p,w,pa,dm):=by
 have key:Ret (fun x=>x=(([KT r f[k].node t].map Zd,0,0,0,16,false,(f.map Zd),qs,r.id.core,r.id.op,r.id.part,r.call.kind,r.call.slot,r.call.dest,r.call.core,r.call.mask,r.call.object,r.call.bits,r.call.level,r.call.offset,r.call.count,r.call.index,r.call.addr,r.region,r.width,r.src.id.core,r.src.id.op,r.src.id.part,(Zc r.src.path),r.src.cap.kind,r.src.cap.base,r.src.cap.bits,r.src.cap.rights,r.src.cap.width,r.src.cap.level,r.src.cap.device,p,w,pa,dm):Qt9)) (Zk5 0 0 16 false (f.map Zd) qs r.id.core r.id.op r.id.part r.call.kind r.call.slot r.call.dest r.call.core r.call.mask r.call.object r.call.bits r.call.level r.call.offset r.call.count r.call.index r.call.addr r.region r.width r.src.id.core r.src.id.op r.src.id.part (Zc r.src.path) r.src.cap.kind r.src.cap.base r.src.cap.bits r.src.cap.rights r.src.cap.width r.src.cap.level r.src.cap.device p w pa dm t):=by
  rw [ZgL]
  refine Zb (fun h=>?_) fun _=>Zb (fun h=>?_) fun _=>Za (ZrR f hl ha k hk qs r p w pa dm h1 h2 h3) (Zb (fun h=>by cases h) fun _=>Za (ZhS ..) (Za (Zsf f[k].node hn r.id hi { f[k].node.cap with rights:=iop .and .i64 f[k].node.cap.rights r.call.mask } (Zg6 (Jj hn).2.1 _) h4 h5 h8) (Zb (fun h=>?_) fun _=>Zf rfl)))
  ·simp only [CQ] at h;omega
  ·simp only [CQ] at h;omega
  ·exfalso;simp only [CQ] at h;omega
 obtain ⟨r,e,rfl⟩:=key
 exact e
theorem ZpB (f:List Zs) (hl:f.length < 900) (ha:f.Pairwise fun a b=>lte a b=true) (k:Nat) (hk:k < f.length) (qs:LL) (r:Req) (p:Int) (w pa dm:LL) (h1:r.src.id=f[k].node.id) (h2:r.id.core=f[k].core) (h3:r.call.slot=f[k].slot) (hn:JA f[k].node=true) (hi:Vp r.id=true) (h4:r.id≠f[k].node.id) (h5:r.id∉f[k].node.path) (hd:0≤r.call.dest∧r.call.dest < 64) (t:Int) (h8:f[k].node.path.length=8) :
  Zk5 0 0 16 false (f.map Zd) qs r.id.core r.id.op r.id.part r.call.kind r.call.slot r.call.dest r.call.core r.call.mask r.call.object r.call.bits r.call.level r.call.offset r.call.count r.call.index r.call.addr r.region r.width r.src.id.core r.src.id.op r.src.id.part (Zc r.src.path) r.src.cap.kind r.src.cap.base r.src.cap.bits r.src.cap.rights r.src.cap.width r.src.cap.level r.src.cap.device p w pa dm t=some (E0,9,0,0,16,false,(f.map Zd),qs,r.id.core,r.id.op,r.id.part,r.call.kind,r.call.slot,r.call.dest,r.call.core,r.call.mask,r.call.object,r.call.bits,r.call.level,r.call.offset,r.call.count,r.call.index,r.call.addr,r.region,r.width,r.src.id.core,r.src.id.op,r.src.id.part,(Zc r.src.path),r.src.cap.kind,r.src.cap.base,r.src.cap.bits,r.src.cap.rights,r.src.cap.width,r.src.cap.level,r.src.cap.device,p,w,pa,dm):=by
 have key:Ret (fun x=>x=((E0,9,0,0,16,false,(f.map Zd),qs,r.id.core,r.id.op,r.id.part,r.call.kind,r.call.slot,r.call.dest,r.call.core,r.call.mask,r.call.object,r.call.bits,r.call.level,r.call.offset,r.call.count,r.call.index,r.call.addr,r.region,r.width,r.src.id.core,r.src.id.op,r.src.id.part,(Zc r.src.path),r.src.cap.kind,r.src.cap.base,r.src.cap.bits,r.src.cap.rights,r.src.cap.width,r.src.cap.level,r.src.cap.device,p,w,pa,dm):Qt9)) (Zk5 0 0 16 false (f.map Zd) qs r.id.core r.id.op r.id.part r.call.kind r.call.slot r.call.dest r.call.core r.call.mask r.call.object r.call.bits r.call.level r.call.offset r.call.count r.call.index r.call.addr r.region r.width r.src.id.core r.src.id.op r.src.id.part (Zc r.src.path) r.src.cap.kind r.src.cap.base r.src.cap.bits r.src.cap.rights r.src.cap.width r.src.cap.level r.src.cap.device p w pa dm t):=by
  rw [ZgL]
  refine Zb (fun h=>?_) fun _=>Zb (fun h=>?_) fun _=>Za (ZrR f hl ha k hk qs r p w pa dm h1 h2 h3) (Zb (fun h=>by cases h) fun _=>Za (ZhS ..) (Za (ZqS f[k].node hn r.id hi { f[k].node.cap with rights:=iop .and .i64 f[k].node.cap.rights r.call.mask } (Zg6 (Jj hn).2.1 _) h4 h5 h8) (Zb (fun _=>Zf rfl) fun h=>?_)))
  ·simp only [CQ] at h;omega
  ·simp only [CQ] at h;omega
  ·exfalso;simp only [CQ] at h;omega
 obtain ⟨r,e,rfl⟩:=key
 exact e
theorem ZsW (f:List Zs) (hF:Zc0 f) (hl:f.length < 900) (qs:LL) (r:Req) (p:Int) (w pa dm:LL) (x:Zs) (hx:x.node.path.length≤20) (h1:∀ e∈f,e.node.id≠x.node.id) (h2:∀ e∈f,¬ (e.core=x.core∧e.slot=x.slot)) :
  ZoG 0 0 16 false (f.map Zd) qs r.id.core r.id.op r.id.part r.call.kind r.call.slot r.call.dest r.call.core r.call.mask r.call.object r.call.bits r.call.level r.call.offset r.call.count r.call.index r.call.addr r.region r.width r.src.id.core r.src.id.op r.src.id.part (Zc r.src.path) r.src.cap.kind r.src.cap.base r.src.cap.bits r.src.cap.rights r.src.cap.width r.src.cap.level r.src.cap.device p w pa dm ([x].map Zd)=some (true,oT ((VZ f x).map Zd) qs r p w pa dm):=by
 have e:=s38 f hF hl x hx h1 h2
 have key:Ret (fun x'=>x'=(true,oT ((VZ f x).map Zd) qs r p w pa dm)) (ZoG 0 0 16 false (f.map Zd) qs r.id.core r.id.op r.id.part r.call.kind r.call.slot r.call.dest r.call.core r.call.mask r.call.object r.call.bits r.call.level r.call.offset r.call.count r.call.index r.call.addr r.region r.width r.src.id.core r.src.id.op r.src.id.part (Zc r.src.path) r.src.cap.kind r.src.cap.base r.src.cap.bits r.src.cap.rights r.src.cap.width r.src.cap.level r.src.cap.device p w pa dm ([x].map Zd)):=by
  rw [ZlU]
  refine Ya (F:=fun k (s:LL) i=>Zfp k 0 0 16 false (f.map Zd) qs r.id.core r.id.op r.id.part r.call.kind r.call.slot r.call.dest r.call.core r.call.mask r.call.object r.call.bits r.call.level r.call.offset r.call.count r.call.index r.call.addr r.region r.width r.src.id.core r.src.id.op r.src.id.part (Zc r.src.path) r.src.cap.kind r.src.cap.base r.src.cap.bits r.src.cap.rights r.src.cap.width r.src.cap.level r.src.cap.device p w pa dm s ([x].map Zd) (([x].map Zd).length:Int) i) 1 (fun i s=>(i=0→s=f.map Zd)∧(1≤i→s=(VZ f x).map Zd)) (by omega) (fun k i s hi hJ next=>?_) (f.map Zd) ⟨fun _=>rfl,fun h=>by omega⟩
  refine ZA (Zg5 ..) (Zb (fun h=>?_) fun h=>?_)
  ·have hi0:i=0:=by simp only [CQ,List.length_map,List.length_singleton] at h;omega
   subst hi0
   rw [hJ.1 rfl]
   refine ZA (Z5 (l:=[x]) (i:=0) (by simp) _) (Za e (Zb (fun h=>by cases h) fun _=>?_))
   exact next (by omega) _ ⟨fun h=>by omega,fun _=>rfl⟩
  ·have hi1:1≤i:=by simp only [CQ,List.length_map,List.length_singleton] at h;omega
   rw [hJ.2 hi1]
   exact Zf rfl
 obtain ⟨r,e,rfl⟩:=key
 exact e
end Go.Proofs.YtlgmnddelljbmaaGreat
end

section
namespace Go.Proofs.YtlgmnddelljbmaaGreat
open Go Go.AM
set_option linter.unusedSimpArgs false
set_option linter.unusedVariables false
set_option maxRecDepth 100000
theorem ZpH (f:List Zs) (hl:f.length < 900) (ha:f.Pairwise fun a b=>lte a b=true) (k:Nat) (hk:k < f.length) (qs:LL) (r:Req) (p:Int) (w pa dm:LL) (h1:r.src.id=f[k].node.id) (h2:r.id.core=f[k].core) (h3:r.call.slot=f[k].slot) (hn:JA f[k].node=true) (hi:Vp r.id=true) (h4:r.id≠f[k].node.id) (h5:r.id∉f[k].node.path) (hd:0≤r.call.dest∧r.call.dest < 64) (hc:0≤r.call.core∧r.call.core < 32) (h8:f[k].node.path.length=8) :
  Zll 0 0 16 false (f.map Zd) qs r.id.core r.id.op r.id.part r.call.kind r.call.slot r.call.dest r.call.core r.call.mask r.call.object r.call.bits r.call.level r.call.offset r.call.count r.call.index r.call.addr r.region r.width r.src.id.core r.src.id.op r.src.id.part (Zc r.src.path) r.src.cap.kind r.src.cap.base r.src.cap.bits r.src.cap.rights r.src.cap.width r.src.cap.level r.src.cap.device p w pa dm=some ([mM 2 r.id.core 0 r.id 9 false E0],oT (f.map Zd) qs r 5 E0 pa dm):=by
 have key:Ret (fun x=>x=(([mM 2 r.id.core 0 r.id 9 false E0],oT (f.map Zd) qs r 5 E0 pa dm):Qt12)) (Zll 0 0 16 false (f.map Zd) qs r.id.core r.id.op r.id.part r.call.kind r.call.slot r.call.dest r.call.core r.call.mask r.call.object r.call.bits r.call.level r.call.offset r.call.count r.call.index r.call.addr r.region r.width r.src.id.core r.src.id.op r.src.id.part (Zc r.src.path) r.src.cap.kind r.src.cap.base r.src.cap.bits r.src.cap.rights r.src.cap.width r.src.cap.level r.src.cap.device p w pa dm):=by
  rw [ZiL]
  refine Zb (fun h=>?_) fun _=>Zb (fun h=>?_) fun _=>Za (ZpB f hl ha k hk qs r p w pa dm h1 h2 h3 hn hi h4 h5 hd r.call.core h8) (Zb (fun h=>?_) fun _=>Zb (fun _=>Za (s47 (f.map Zd) qs r p w pa dm 9 false E0) (Zf rfl)) fun h=>?_)
  ·simp only [CQ] at h;omega
  ·simp only [CQ] at h;omega
  ·simp only [CQ] at h;omega
  ·exfalso;simp only [CQ] at h;omega
 obtain ⟨r,e,rfl⟩:=key
 exact e
theorem Zrb (f:List Zs) (hl:f.length < 900) (ha:f.Pairwise fun a b=>lte a b=true) (k:Nat) (hk:k < f.length) (qs:LL) (r:Req) (p:Int) (w pa dm:LL) (h1:r.src.id=f[k].node.id) (h2:r.id.core=f[k].core) (h3:r.call.slot=f[k].slot) (hF:Zc0 f) (hn:JA f[k].node=true) (hi:Vp r.id=true) (h4:r.id≠f[k].node.id) (h5:r.id∉f[k].node.path) (hd:0≤r.call.dest∧r.call.dest < 64) (hc:0≤r.call.core∧r.call.core < 32) (h8:f[k].node.path.length≠8)
  (hid:∀ e∈f,e.node.id≠r.id) (hpl:∀ e∈f,¬ (e.core=r.call.core∧e.slot=r.call.dest)) :
  Zll 0 0 16 false (f.map Zd) qs r.id.core r.id.op r.id.part r.call.kind r.call.slot r.call.dest r.call.core r.call.mask r.call.object r.call.bits r.call.level r.call.offset r.call.count r.call.index r.call.addr r.region r.width r.src.id.core r.src.id.op r.src.id.part (Zc r.src.path) r.src.cap.kind r.src.cap.base r.src.cap.bits r.src.cap.rights r.src.cap.width r.src.cap.level r.src.cap.device p w pa dm=some ([mM 4 r.call.core r.call.dest r.id 0 false [ZmX (KT r f[k].node r.call.core).node]],oT ((VZ f (KT r f[k].node r.call.core)).map Zd) qs r 1 [[I r.call.core]] pa dm):=by
 have hp:=(Jj hn).2.2.1
 have hpx:(KT r f[k].node r.call.core).node.path.length≤20:=by simp [KT,KA];omega
 have key:Ret (fun x=>x=(([mM 4 r.call.core r.call.dest r.id 0 false [ZmX (KT r f[k].node r.call.core).node]],oT ((VZ f (KT r f[k].node r.call.core)).map Zd) qs r 1 [[I r.call.core]] pa dm):Qt12)) (Zll 0 0 16 false (f.map Zd) qs r.id.core r.id.op r.id.part r.call.kind r.call.slot r.call.dest r.call.core r.call.mask r.call.object r.call.bits r.call.level r.call.offset r.call.count r.call.index r.call.addr r.region r.width r.src.id.core r.src.id.op r.src.id.part (Zc r.src.path) r.src.cap.kind r.src.cap.base r.src.cap.bits r.src.cap.rights r.src.cap.width r.src.cap.level r.src.cap.device p w pa dm):=by
  rw [ZiL]
  refine Zb (fun h=>?_) fun _=>Zb (fun h=>?_) fun _=>Za (Zsx f hl ha k hk qs r p w pa dm h1 h2 h3 hn hi h4 h5 hd r.call.core h8) (Zb (fun _=>Za (ZsW f hF hl qs r p w pa dm (KT r f[k].node r.call.core) hpx hid hpl) (Zb (fun h=>by cases h) fun _=>Zb (fun h=>?_) fun _=>Za (ZhM ..) (ZA (Z5 (l:=[KT r f[k].node r.call.core]) (i:=0) (by simp) _) (Za (s87 (KT r f[k].node r.call.core).node (by omega)) (Zf rfl))))) fun h=>?_)
  ·simp only [CQ] at h;omega
  ·simp only [CQ] at h;omega
  ·exfalso;simp only [CQ] at h;omega
  ·exact (h (by simp only [CQ])).elim
 obtain ⟨r,e,rfl⟩:=key
 exact e
theorem Zr4 (es qs:LL) (r:Req) (hk:r.call.kind=4) (p:Int) (w pa dm:LL) {R:Qt12} (h:Zll 0 0 16 false es qs r.id.core r.id.op r.id.part r.call.kind r.call.slot r.call.dest r.call.core r.call.mask r.call.object r.call.bits r.call.level r.call.offset r.call.count r.call.index r.call.addr r.region r.width r.src.id.core r.src.id.op r.src.id.part (Zc r.src.path) r.src.cap.kind r.src.cap.base r.src.cap.bits r.src.cap.rights r.src.cap.width r.src.cap.level r.src.cap.device p w pa dm=some R):g95 0 0 16 false es qs r.id.core r.id.op r.id.part r.call.kind r.call.slot r.call.dest r.call.core r.call.mask r.call.object r.call.bits r.call.level r.call.offset r.call.count r.call.index r.call.addr r.region r.width r.src.id.core r.src.id.op r.src.id.part (Zc r.src.path) r.src.cap.kind r.src.cap.base r.src.cap.bits r.src.cap.rights r.src.cap.width r.src.cap.level r.src.cap.device p w pa dm=some R:=by
 have key:Ret (fun x=>x=R) (g95 0 0 16 false es qs r.id.core r.id.op r.id.part r.call.kind r.call.slot r.call.dest r.call.core r.call.mask r.call.object r.call.bits r.call.level r.call.offset r.call.count r.call.index r.call.addr r.region r.width r.src.id.core r.src.id.op r.src.id.part (Zc r.src.path) r.src.cap.kind r.src.cap.base r.src.cap.bits r.src.cap.rights r.src.cap.width r.src.cap.level r.src.cap.device p w pa dm):=by
  rw [Zof]
  refine Zb (fun h=>?_) fun _=>Zb (fun h=>?_) fun _=>Zb (fun h=>?_) fun _=>Zb (fun _=>Za h (Zf rfl)) fun h=>?_
  ·exfalso;simp only [CQ] at h;omega
  ·exfalso;simp only [CQ] at h;omega
  ·exfalso;simp only [CQ] at h;omega
  ·exfalso;simp only [CQ] at h;omega
 obtain ⟨r,e,rfl⟩:=key
 exact e
theorem ZsP (es:LL) (r:Req) {R:Qt12} (h:g95 0 0 16 false es E0 r.id.core r.id.op r.id.part r.call.kind r.call.slot r.call.dest r.call.core r.call.mask r.call.object r.call.bits r.call.level r.call.offset r.call.count r.call.index r.call.addr r.region r.width r.src.id.core r.src.id.op r.src.id.part (Zc r.src.path) r.src.cap.kind r.src.cap.base r.src.cap.bits r.src.cap.rights r.src.cap.width r.src.cap.level r.src.cap.device 0 E0 E0 E0=some R):g44 0 0 16 false es ([r].map Zph) 0 0 0 0 0 0 0 0 0 0 0 0 0 0 0 0 0 0 0 0 E0 0 0 0 0 0 0 false 0 E0 E0 E0=some R:=by
 have key:Ret (fun x=>x=R) (g44 0 0 16 false es ([r].map Zph) 0 0 0 0 0 0 0 0 0 0 0 0 0 0 0 0 0 0 0 0 E0 0 0 0 0 0 0 false 0 E0 E0 E0):=by
  rw [Zom]
  refine Zb (fun h=>?_) fun _=>Zb (fun h=>?_) fun _=>?_
  ·exfalso;simp only [CQ] at h;omega
  ·exfalso;simp only [CQ,List.length_map,List.length_cons,List.length_nil] at h;omega
  ·refine Ja (Int.le_refl _) (Ja (by simp only [List.length_map,List.length_cons];omega) (ZA (Ziw (l:=[r]) (i:=0) (by simp) _) ?_))
   have hdel:g94 ([r].map Zph) 0 1=some E0:=by
    rw [ZmU]
    unfold ZnY
    rw [Zx (Int.le_refl _),Zx (by decide),Zx (by simp)]
    rfl
   exact Za hdel (Za h (Zf rfl))
 obtain ⟨r,e,rfl⟩:=key
 exact e
structure Zq5 (r:Req):Prop where
 id:Vp r.id=true
 part:r.id.part=0
 k2:2≤r.call.kind
 k6:r.call.kind≤6
 reg:r.region=0
 wid:r.width=32
 src:JA r.src=true
theorem s42 (r:Req) (h:Zq5 r):g42 r.id.core r.id.op r.id.part r.call.kind r.call.slot r.call.dest r.call.core r.call.mask r.call.object r.call.bits r.call.level r.call.offset r.call.count r.call.index r.call.addr r.region r.width r.src.id.core r.src.id.op r.src.id.part (Zc r.src.path) r.src.cap.kind r.src.cap.base r.src.cap.bits r.src.cap.rights r.src.cap.width r.src.cap.level r.src.cap.device=some true:=by
 have hp:=(Jj h.src).2.2.1
 have e90:g90 r.id.core r.id.op r.id.part=some true:=by
  rw [Zkj,Zmj,h.id,h.part]
  rfl
 have e91:g91 r.region=some true:=by rw [h.reg];kernel_rfl
 have hw:=h.wid
 have k2:=h.k2
 have k6:=h.k6
 have key:Ret (fun x=>x=true) (g42 r.id.core r.id.op r.id.part r.call.kind r.call.slot r.call.dest r.call.core r.call.mask r.call.object r.call.bits r.call.level r.call.offset r.call.count r.call.index r.call.addr r.region r.width r.src.id.core r.src.id.op r.src.id.part (Zc r.src.path) r.src.cap.kind r.src.cap.base r.src.cap.bits r.src.cap.rights r.src.cap.width r.src.cap.level r.src.cap.device):=by
  rw [Zoq]
  refine Za e90 (Zb (fun h=>by cases h) fun _=>Zb (fun h=>?_) fun _=>Zb (fun h=>?_) fun _=>Za e91 (Zb (fun h=>by cases h) fun _=>Zb (fun h=>?_) fun _=>Zb (fun h=>?_) fun _=>Za (s93 r.src (by omega)) (Zf h.src)))
  ·simp only [CQ] at h;omega
  ·simp only [CQ] at h;omega
  ·exfalso;simp only [CQ] at h;omega
  ·exfalso;simp only [CQ] at h;omega
 obtain ⟨r,e,rfl⟩:=key
 exact e
theorem s43 (r:Req) (h:r.src.path.length≤64):g43 r.id.core r.id.op r.id.part r.call.kind r.call.slot r.call.dest r.call.core r.call.mask r.call.object r.call.bits r.call.level r.call.offset r.call.count r.call.index r.call.addr r.region r.width r.src.id.core r.src.id.op r.src.id.part (Zc r.src.path) r.src.cap.kind r.src.cap.base r.src.cap.bits r.src.cap.rights r.src.cap.width r.src.cap.level r.src.cap.device=some (ZrH r):=by
 rw [ZmA,s87 r.src h]
 rfl
theorem s40 (es:LL) (r:Req):Zfk 0 0 16 false es E0 0 0 0 0 0 0 0 0 0 0 0 0 0 0 0 0 0 0 0 0 E0 0 0 0 0 0 0 false 0 E0 E0 E0 r.id.core r.id.op r.id.part r.call.kind r.call.slot r.call.dest r.call.core r.call.mask r.call.object r.call.bits r.call.level r.call.offset r.call.count r.call.index r.call.addr r.region r.width r.src.id.core r.src.id.op r.src.id.part (Zc r.src.path) r.src.cap.kind r.src.cap.base r.src.cap.bits r.src.cap.rights r.src.cap.width r.src.cap.level r.src.cap.device=some (false,0,0,16,false,es,E0,0,0,0,0,0,0,0,0,0,0,0,0,0,0,0,0,0,0,0,0,E0,0,0,0,0,0,0,false,0,E0,E0,E0,r.id.core,r.id.op,r.id.part,r.call.kind,r.call.slot,r.call.dest,r.call.core,r.call.mask,r.call.object,r.call.bits,r.call.level,r.call.offset,r.call.count,r.call.index,r.call.addr,r.region,r.width,r.src.id.core,r.src.id.op,r.src.id.part,(Zc r.src.path),r.src.cap.kind,r.src.cap.base,r.src.cap.bits,r.src.cap.rights,r.src.cap.width,r.src.cap.level,r.src.cap.device):=by
 have key:Ret (fun x=>x=((false,0,0,16,false,es,E0,0,0,0,0,0,0,0,0,0,0,0,0,0,0,0,0,0,0,0,0,E0,0,0,0,0,0,0,false,0,E0,E0,E0,r.id.core,r.id.op,r.id.part,r.call.kind,r.call.slot,r.call.dest,r.call.core,r.call.mask,r.call.object,r.call.bits,r.call.level,r.call.offset,r.call.count,r.call.index,r.call.addr,r.region,r.width,r.src.id.core,r.src.id.op,r.src.id.part,(Zc r.src.path),r.src.cap.kind,r.src.cap.base,r.src.cap.bits,r.src.cap.rights,r.src.cap.width,r.src.cap.level,r.src.cap.device):Qt5)) (Zfk 0 0 16 false es E0 0 0 0 0 0 0 0 0 0 0 0 0 0 0 0 0 0 0 0 0 E0 0 0 0 0 0 0 false 0 E0 E0 E0 r.id.core r.id.op r.id.part r.call.kind r.call.slot r.call.dest r.call.core r.call.mask r.call.object r.call.bits r.call.level r.call.offset r.call.count r.call.index r.call.addr r.region r.width r.src.id.core r.src.id.op r.src.id.part (Zc r.src.path) r.src.cap.kind r.src.cap.base r.src.cap.bits r.src.cap.rights r.src.cap.width r.src.cap.level r.src.cap.device):=by
  rw [Zia]
  refine Zz (Q:=fun x=>x=(((-1),0,0,16,false,es,E0,0,0,0,0,0,0,0,0,0,0,0,0,0,0,0,0,0,0,0,0,E0,0,0,0,0,0,0,false,0,E0,E0,E0,r.id.core,r.id.op,r.id.part,r.call.kind,r.call.slot,r.call.dest,r.call.core,r.call.mask,r.call.object,r.call.bits,r.call.level,r.call.offset,r.call.count,r.call.index,r.call.addr,r.region,r.width,r.src.id.core,r.src.id.op,r.src.id.part,(Zc r.src.path),r.src.cap.kind,r.src.cap.base,r.src.cap.bits,r.src.cap.rights,r.src.cap.width,r.src.cap.level,r.src.cap.device):Qt6)) ?_ fun x hr=>by subst hr;exact Zf rfl
  rw [ZgQ]
  refine Ya (F:=fun k (_:Unit) i=>WM k (List.length E0:Int) i 0 0 16 false es E0 0 0 0 0 0 0 0 0 0 0 0 0 0 0 0 0 0 0 0 0 E0 0 0 0 0 0 0 false 0 E0 E0 E0 r.id.core r.id.op r.id.part r.call.kind r.call.slot r.call.dest r.call.core r.call.mask r.call.object r.call.bits r.call.level r.call.offset r.call.count r.call.index r.call.addr r.region r.width r.src.id.core r.src.id.op r.src.id.part (Zc r.src.path) r.src.cap.kind r.src.cap.base r.src.cap.bits r.src.cap.rights r.src.cap.width r.src.cap.level r.src.cap.device) 0 (fun _ _=>True) (by omega) (fun k i _ hi _ next=>?_) () trivial
  refine ZA (ZeV ..) (Zb (fun h=>?_) fun _=>Zf rfl)
  exfalso;simp only [CQ,List.length_nil] at h;omega
 obtain ⟨r,e,rfl⟩:=key
 exact e
theorem s14 (es:LL) (r:Req) (hr:Zq5 r) {R:Qt12} (h:g95 0 0 16 false es E0 r.id.core r.id.op r.id.part r.call.kind r.call.slot r.call.dest r.call.core r.call.mask r.call.object r.call.bits r.call.level r.call.offset r.call.count r.call.index r.call.addr r.region r.width r.src.id.core r.src.id.op r.src.id.part (Zc r.src.path) r.src.cap.kind r.src.cap.base r.src.cap.bits r.src.cap.rights r.src.cap.width r.src.cap.level r.src.cap.device 0 E0 E0 E0=some R):g14 0 0 16 false es E0 0 0 0 0 0 0 0 0 0 0 0 0 0 0 0 0 0 0 0 0 E0 0 0 0 0 0 0 false 0 E0 E0 E0 r.id.core r.id.op r.id.part r.call.kind r.call.slot r.call.dest r.call.core r.call.mask r.call.object r.call.bits r.call.level r.call.offset r.call.count r.call.index r.call.addr r.region r.width r.src.id.core r.src.id.op r.src.id.part (Zc r.src.path) r.src.cap.kind r.src.cap.base r.src.cap.bits r.src.cap.rights r.src.cap.width r.src.cap.level r.src.cap.device=some R:=by
 have hp:=(Jj hr.src).2.2.1
 have hreg:=hr.reg
 have key:Ret (fun x=>x=R) (g14 0 0 16 false es E0 0 0 0 0 0 0 0 0 0 0 0 0 0 0 0 0 0 0 0 0 E0 0 0 0 0 0 0 false 0 E0 E0 E0 r.id.core r.id.op r.id.part r.call.kind r.call.slot r.call.dest r.call.core r.call.mask r.call.object r.call.bits r.call.level r.call.offset r.call.count r.call.index r.call.addr r.region r.width r.src.id.core r.src.id.op r.src.id.part (Zc r.src.path) r.src.cap.kind r.src.cap.base r.src.cap.bits r.src.cap.rights r.src.cap.width r.src.cap.level r.src.cap.device):=by
  rw [ZnS]
  refine Za (s40 es r) (Zb (fun h=>by cases h) fun _=>Zb (fun h=>?_) fun _=>Za (s42 r hr) (Zb (fun h=>by cases h) fun _=>Zb (fun h=>?_) fun _=>?_))
  ·exfalso;simp only [CQ] at h;omega
  ·exfalso;simp only [CQ] at h;omega
  ·exact Za (s43 r (by omega)) (Ja (Jr (by simp) (by decide)) (Za (ZsP es r h) (Zf rfl)))
 obtain ⟨r,e,rfl⟩:=key
 exact e
def iT (es:LL):Qt13:=(0,0,16,false,es,E0,0,0,0,0,0,0,0,0,0,0,0,0,0,0,0,0,0,0,0,0,E0,0,0,0,0,0,0,false,0,E0,E0,E0)
theorem s9 (f:List Zs) (n:Nat) (hf:FOk f n) (hn:n≤100):g9 0 0 16 false (f.map Zd)=some (iT (f.map Zd)):=by
 have hl:=hf.len
 have hF:=hf.few hn
 have key:Ret (fun x=>x=iT (f.map Zd)) (g9 0 0 16 false (f.map Zd)):=by
  rw [ZpS,List.length_map]
  refine Ya (F:=fun k (s:LL) i=>ZmV k (f.map Zd) (f.length:Int) i 0 0 16 false s E0 0 0 0 0 0 0 0 0 0 0 0 0 0 0 0 0 0 0 0 0 E0 0 0 0 0 0 0 false 0 E0 E0 E0) f.length (fun i s=>s=(f.take i).map Zd) (by omega) (fun k i s hi hJ next=>?_) E0 (by simp)
  subst hJ
  refine ZA (ZlA ..) (Zb (fun h=>?_) fun h=>?_)
  ·simp only [CQ] at h
   have hi':i < f.length:=by omega
   have hne:∀ e∈f.take i,lte e f[i]=true∧¬ (e.core=f[i].core∧e.slot=f[i].slot):=by
    intro e he
    obtain ⟨j,hj,rfl⟩:=List.mem_iff_getElem.1 he
    rw [List.length_take] at hj
    rw [List.getElem_take]
    exact ⟨List.pairwise_iff_getElem.1 hf.asc j i (by omega) hi' (by omega),List.pairwise_iff_getElem.1 hf.pl j i (by omega) hi' (by omega)⟩
   have hp:=hF.path f[i] (List.getElem_mem hi')
   have e:=s38 (f.take i) ⟨by rw [List.length_take];omega,fun x hx=>hF.path x (List.mem_of_mem_take hx)⟩ (by rw [List.length_take];omega) f[i] (by omega) (fun e he hc=>by have:=(hne e he).1;rw [W6,hc] at this;omega) (fun e he=>(hne e he).2)
   rw [ZjE _ _ fun e he=>(hne e he).1] at e
   refine ZA (Z5 hi' _) (Za e (Zb (fun _=>?_) fun h=>absurd rfl h))
   rw [Zem hi (by omega)]
   exact next hi' _ (by rw [List.take_succ_eq_append_getElem hi'])
  ·simp only [CQ] at h
   rw [List.take_of_length_le (by omega)]
   exact Zf rfl
 obtain ⟨r,e,rfl⟩:=key
 exact e
end Go.Proofs.YtlgmnddelljbmaaGreat
end

section
namespace Go.Proofs.YtlgmnddelljbmaaGreat
open Go Go.AM
set_option linter.unusedSimpArgs false
set_option linter.unusedVariables false
set_option maxRecDepth 100000
def mV (k to slot:Int) (i:Id) (err:Int) (st:Bool) (nodes:LL):Qt3:=(k,0,0,to,0,0,slot,i.core,i.op,i.part,err,st,0,0,0,0,0,0,0,0,0,0,0,0,0,0,0,0,0,0,0,0,E0,0,0,0,0,0,0,false,E0,nodes,E0,E0,0,0,E0,E0,E0,E0,E0,E0,E0,E0,0,0,E0,E0,E0,E0,E0,E0,E0,E0,false,0,E0,E0,E0,E0,E0,E0,E0,E0)
theorem WY {γ:Type} (k to slot:Int) (i:Id) (err:Int) (st:Bool) (nodes:LL) (q:Qt3→Option γ):Zu [mM k to slot i err st nodes] 0 hs0 q=q (mV k to slot i err st nodes):=@KG γ [mM k to slot i err st nodes] 0 hs0 (mM k to slot i err st nodes) (mV k to slot i err st nodes) q (Int.le_refl 0) rfl rfl
theorem Zk4 (f:Int) (i:Id) (err:Int):g45 5 0 f 0 0 0 0 i.core i.op i.part err false 0 0 0 0 0 0 0 0 0 0 0 0 0 0 0 0 0 0 0 0 E0 0 0 0 0 0 0 false E0 E0 E0 E0 0 0 E0 E0 E0 E0 E0 E0 E0 E0 0 0 E0 E0 E0 E0 E0 E0 E0 E0 false 0 E0 E0 E0 E0 E0 E0 E0 E0=((g98 f).bind fun r=>if (!r)=true then some false else (((g90 i.core i.op i.part).bind fun r=>some r).bind fun r=>if (!r)=true then some false else (((Zo0 err).bind fun r=>some r).bind fun r=>if (!r)=true then some false else some true))):=by kernel_rfl
theorem ZsZ {f:Int} (hf:0≤f∧f < 32) {i:Id} (hi:Vp i=true) (hp:i.part=0) {err:Int} (he:0≤err∧err≤99):g45 5 0 f 0 0 0 0 i.core i.op i.part err false 0 0 0 0 0 0 0 0 0 0 0 0 0 0 0 0 0 0 0 0 E0 0 0 0 0 0 0 false E0 E0 E0 E0 0 0 E0 E0 E0 E0 E0 E0 E0 E0 0 0 E0 E0 E0 E0 E0 E0 E0 E0 false 0 E0 E0 E0 E0 E0 E0 E0 E0=some true:=by
 have e98:g98 f=some true:=by
  have key:Ret (fun r=>r=true) (g98 f):=by
   have e:g98 f=(if (cop .geq f 0)=true then some ((cop .lss f 32)) else some (false)):=by kernel_rfl
   rw [e]
   refine Zb (fun _=>Zf ?_) fun h=>?_
   ·simp only [CQ];omega
   ·exfalso;simp only [CQ] at h;omega
  obtain ⟨r,e,rfl⟩:=key
  exact e
 have e161:Zo0 err=some true:=by
  have key:Ret (fun r=>r=true) (Zo0 err):=by
   have e:Zo0 err=(if (cop .geq err 0)=true then some ((cop .leq err 99)) else some (false)):=by kernel_rfl
   rw [e]
   refine Zb (fun _=>Zf ?_) fun h=>?_
   ·simp only [CQ];omega
   ·exfalso;simp only [CQ] at h;omega
  obtain ⟨r,e,rfl⟩:=key
  exact e
 have e90:g90 i.core i.op i.part=some true:=by
  rw [Zkj,Zmj,hi,hp]
  rfl
 rw [Zk4,e98,e90,e161]
 rfl
theorem ZlC (es w:LL) (r:Req) (f err:Int):g18 0 0 16 false es E0 r.id.core r.id.op r.id.part r.call.kind r.call.slot r.call.dest r.call.core r.call.mask r.call.object r.call.bits r.call.level r.call.offset r.call.count r.call.index r.call.addr r.region r.width r.src.id.core r.src.id.op r.src.id.part (Zc r.src.path) r.src.cap.kind r.src.cap.base r.src.cap.bits r.src.cap.rights r.src.cap.width r.src.cap.level r.src.cap.device 1 w E0 E0 5 0 f 0 0 0 0 r.id.core r.id.op r.id.part err false 0 0 0 0 0 0 0 0 0 0 0 0 0 0 0 0 0 0 0 0 E0 0 0 0 0 0 0 false E0 E0 E0 E0 0 0 E0 E0 E0 E0 E0 E0 E0 E0 0 0 E0 E0 E0 E0 E0 E0 E0 E0 false 0 E0 E0 E0 E0 E0 E0 E0 E0 =
  ((g45 5 0 f 0 0 0 0 r.id.core r.id.op r.id.part err false 0 0 0 0 0 0 0 0 0 0 0 0 0 0 0 0 0 0 0 0 E0 0 0 0 0 0 0 false E0 E0 E0 E0 0 0 E0 E0 E0 E0 E0 E0 E0 E0 0 0 E0 E0 E0 E0 E0 E0 E0 E0 false 0 E0 E0 E0 E0 E0 E0 E0 E0).bind fun v=>if (!v)=true then some (E0,E0,oT es E0 r 1 w E0 E0) else
   if (!((cop .eql r.id.core r.id.core)&&((cop .eql r.id.op r.id.op)&&((cop .eql r.id.part r.id.part)&&true))))=true then some (E0,E0,oT es E0 r 1 w E0 E0) else
   if (cop .eql f r.call.core)=true then
    (if (cop .neq err 0)=true then (g46 es r.id.core r.id.op r.id.part).bind fun q=>(g47 0 0 16 false q.1 E0 r.id.core r.id.op r.id.part r.call.kind r.call.slot r.call.dest r.call.core r.call.mask r.call.object r.call.bits r.call.level r.call.offset r.call.count r.call.index r.call.addr r.region r.width r.src.id.core r.src.id.op r.src.id.part (Zc r.src.path) r.src.cap.kind r.src.cap.base r.src.cap.bits r.src.cap.rights r.src.cap.width r.src.cap.level r.src.cap.device 1 w E0 E0 err true E0).bind fun x=>some (x.1,E0,x.2)
    else (g47 0 0 16 false es E0 r.id.core r.id.op r.id.part r.call.kind r.call.slot r.call.dest r.call.core r.call.mask r.call.object r.call.bits r.call.level r.call.offset r.call.count r.call.index r.call.addr r.region r.width r.src.id.core r.src.id.op r.src.id.part (Zc r.src.path) r.src.cap.kind r.src.cap.base r.src.cap.bits r.src.cap.rights r.src.cap.width r.src.cap.level r.src.cap.device 1 w E0 E0 err true E0).bind fun x=>some (x.1,E0,x.2))
   else some (E0,E0,oT es E0 r 1 w E0 E0)):=by kernel_rfl
theorem s18 (f:List Zs) (hF:Zc0 f) (hl:f.length < 90) (ha:f.Pairwise fun a b=>lte a b=true) (x:Zs) (hx:x.node.path.length≤20) (h1:∀ e∈f,e.node.id≠x.node.id) (h2:∀ e∈f,¬ (e.core=x.core∧e.slot=x.slot)) (w:LL) (r:Req) (hid:Vp r.id=true) (hpt:r.id.part=0) (hxi:x.node.id=r.id) (hc:0≤r.call.core∧r.call.core < 32) (err:Int) (he:0 < err∧err≤99) :
  g18 0 0 16 false ((VZ f x).map Zd) E0 r.id.core r.id.op r.id.part r.call.kind r.call.slot r.call.dest r.call.core r.call.mask r.call.object r.call.bits r.call.level r.call.offset r.call.count r.call.index r.call.addr r.region r.width r.src.id.core r.src.id.op r.src.id.part (Zc r.src.path) r.src.cap.kind r.src.cap.base r.src.cap.bits r.src.cap.rights r.src.cap.width r.src.cap.level r.src.cap.device 1 w E0 E0 5 0 r.call.core 0 0 0 0 r.id.core r.id.op r.id.part err false 0 0 0 0 0 0 0 0 0 0 0 0 0 0 0 0 0 0 0 0 E0 0 0 0 0 0 0 false E0 E0 E0 E0 0 0 E0 E0 E0 E0 E0 E0 E0 E0 0 0 E0 E0 E0 E0 E0 E0 E0 E0 false 0 E0 E0 E0 E0 E0 E0 E0 E0=some ([mM 2 r.id.core 0 r.id err true E0],E0,oT (f.map Zd) E0 r 5 E0 E0 E0):=by
 have hadd:=Zfc f x h1 h2
 have hasc:=ZfJ ha hadd
 have hlen:=Zeg f x
 have hF2:Zc0 (VZ f x):=⟨by omega,fun e he=>by
  obtain ⟨i,_,_,_,_,_,hr⟩:=hadd
  rw [hr] at he
  simp only [List.mem_append,List.mem_singleton] at he
  rcases he with (he | rfl) | he
  ·exact hF.path e (List.mem_of_mem_take he)
  ·exact hx
  ·exact hF.path e (List.mem_of_mem_drop he)⟩
 have hpos:Zby f x < (VZ f x).length:=by have:Zby f x≤f.length:=Kj _ _;omega
 have hat:(VZ f x)[Zby f x]=x:=by
  have:=Znr f x
  rw [List.getElem?_eq_getElem hpos,Option.some.injEq] at this
  exact this
 have e46:=s46 (VZ f x) hF2 (by omega) hasc (Zby f x) hpos r.id (by rw [hat,hxi])
 rw [ZlW] at e46
 have key:Ret (fun y=>y=(([mM 2 r.id.core 0 r.id err true E0],E0,oT (f.map Zd) E0 r 5 E0 E0 E0):Qt10)) (g18 0 0 16 false ((VZ f x).map Zd) E0 r.id.core r.id.op r.id.part r.call.kind r.call.slot r.call.dest r.call.core r.call.mask r.call.object r.call.bits r.call.level r.call.offset r.call.count r.call.index r.call.addr r.region r.width r.src.id.core r.src.id.op r.src.id.part (Zc r.src.path) r.src.cap.kind r.src.cap.base r.src.cap.bits r.src.cap.rights r.src.cap.width r.src.cap.level r.src.cap.device 1 w E0 E0 5 0 r.call.core 0 0 0 0 r.id.core r.id.op r.id.part err false 0 0 0 0 0 0 0 0 0 0 0 0 0 0 0 0 0 0 0 0 E0 0 0 0 0 0 0 false E0 E0 E0 E0 0 0 E0 E0 E0 E0 E0 E0 E0 E0 0 0 E0 E0 E0 E0 E0 E0 E0 E0 false 0 E0 E0 E0 E0 E0 E0 E0 E0):=by
  rw [ZlC]
  refine Za (ZsZ hc hid hpt ⟨by omega,he.2⟩) (Zb (fun h=>by cases h) fun _=>Zb (fun h=>?_) fun _=>Zb (fun _=>Zb (fun _=>Za e46 (Za (s47 (f.map Zd) E0 r 1 w E0 E0 err true E0) (Zf rfl))) fun h=>?_) fun h=>?_)
  ·exfalso;simp [CQ] at h
  ·exfalso;simp only [CQ] at h;omega
  ·exact (h (by simp only [CQ])).elim
 obtain ⟨r,e,rfl⟩:=key
 exact e
theorem s21 (f:List Zs) (hF:Zc0 f) (hl:f.length < 900) (qs:LL) (r:Req) (p:Int) (w pa dm:LL):g21 0 0 16 false (f.map Zd) qs r.id.core r.id.op r.id.part r.call.kind r.call.slot r.call.dest r.call.core r.call.mask r.call.object r.call.bits r.call.level r.call.offset r.call.count r.call.index r.call.addr r.region r.width r.src.id.core r.src.id.op r.src.id.part (Zc r.src.path) r.src.cap.kind r.src.cap.base r.src.cap.bits r.src.cap.rights r.src.cap.width r.src.cap.level r.src.cap.device p w pa dm=some (f.map Zd,oT (f.map Zd) qs r p w pa dm):=by
 rw [Zm7,s51 f hF (by omega)]
 rfl
theorem s20 (f:List Zs) (hF:Zc0 f) (hl:f.length < 900):g20 (f.map Zd) (f.map Zd)=some true:=by
 have key:Ret (fun x=>x=true) (g20 (f.map Zd) (f.map Zd)):=by
  rw [ZnT,List.length_map]
  refine Zb (fun h=>?_) fun _=>?_
  ·exfalso;simp only [CQ] at h;omega
  ·refine Ya (F:=fun k (_:Unit) i=>ZjN k (f.map Zd) (f.map Zd) i) f.length (fun _ _=>True) (by omega) (fun k i _ hi _ next=>?_) () trivial
   refine ZA (Zi6 ..) (Zb (fun h=>?_) fun _=>Zf rfl)
   rw [List.length_map] at h
   simp only [CQ] at h
   have hi':i < f.length:=by omega
   have hp:=hF.path f[i] (List.getElem_mem hi')
   refine ZA (Z5 hi' _) (ZA (Z5 hi' _) (Zb (fun h=>?_) fun _=>ZA (Z5 hi' _) (ZA (Z5 hi' _) (Zb (fun h=>?_) fun _=>ZA (Z5 hi' _) (ZA (Z5 hi' _) (Za (s50 f[i].node.id.core f[i].node.id.op f[i].node.id.part f[i].node.path (by omega) ..) (Zb (fun h=>by cases h) fun _=>?_)))))))
   ·exfalso;simp only [CQ] at h;exact h rfl
   ·exfalso;simp only [CQ] at h;exact h rfl
   ·rw [Zem hi (by omega)]
    exact next hi' () trivial
 obtain ⟨r,e,rfl⟩:=key
 exact e
end Go.Proofs.YtlgmnddelljbmaaGreat
end

section
namespace Go.Proofs.YtlgmnddelljbmaaGreat
open Go Go.AM
set_option linter.unusedSimpArgs false
set_option linter.unusedVariables false
set_option maxRecDepth 100000
theorem Znb {γ:Type} {P:γ→Prop} {a b z:Int} {k:Int→Option γ} (h0:0≤z) (h:z < 2) (hk:∀ x,x=a∨x=b→Ret P (k x)):Ret P (Zu ((E0++[[AV.val (.int .i64 a)]])++[[AV.val (.int .i64 b)]]) z [.int .i64] k):=
 Wz (l:=[a,b]) h0 (by simp;omega) (hk _ (by rcases (by omega:z=0∨z=1) with rfl | rfl<;>simp))
theorem ZlI {f:List Zs} (hF:Zc0 f) (hl:f.length < 90) {x:Zs} (hx:x.node.path.length≤20) (h1:∀ e∈f,e.node.id≠x.node.id) (h2:∀ e∈f,¬ (e.core=x.core∧e.slot=x.slot)):Zc0 (VZ f x):=⟨by have:=Zeg f x;omega,fun e he=>by
  obtain ⟨i,_,_,_,_,_,hr⟩:=Zfc f x h1 h2
  rw [hr] at he
  simp only [List.mem_append,List.mem_singleton] at he
  rcases he with (he | rfl) | he
  ·exact hF.path e (List.mem_of_mem_take he)
  ·exact hx
  ·exact hF.path e (List.mem_of_mem_drop he)⟩
theorem s4 (l:List ZkV) (hn:l.length < 2^63) (which to dest err:Int):g4 (l.map V5) which to dest err=some true:=by
 have e8:g8=some true:=by kernel_rfl
 have e10:g10=some (0,16,false):=by kernel_rfl
 have key:Ret (fun x=>x=true) (g4 (l.map V5) which to dest err):=by
  rw [Zpu]
  refine Zz (s7 l hn) fun r hr=>?_
  obtain ⟨f,hf,rfl⟩:=hr
  refine Zb (fun _=>Za e8 (Zf rfl)) fun h0=>?_
  simp only [CQ,List.length_map] at h0
  have hl:=hf.len
  have hF:=hf.few (by omega)
  refine Za e10 (Za (s11 f hF) (Za (s9 f 30 hf (by omega)) ?_))
  rw [List.length_map]
  refine Zz (place which (f.length:Int) (by omega) (by omega)) fun z hz=>?_
  have hk:z.toNat < f.length:=by omega
  refine Kv hz.1 hk ?_
  have hE:=hf.all _ (List.getElem_mem hk)
  have hno:=Jj hE.ok
  refine Zz (place to 4 (by omega) (by omega)) fun t ht=>Za (s13 f[z.toNat].node (by omega)) (Zz (place dest 8 (by omega) (by omega)) fun d hd=>?_)
  have eT:iop .add .i64 4 t=4+t:=YU (by omega) (by omega)
  rw [eT]
  have hT:4≤4+t∧4+t < 8:=by omega
  generalize 4+t=T at hT
  generalize hkk:z.toNat=k at hk hE hno
  let r:Req:=⟨⟨f[k].core,100,0⟩,⟨4,f[k].slot,d,T,7,0,0,0,0,0,0,0⟩,0,32,f[k].node⟩
  have hc0:=hE.c0
  have hc1:=hE.c1
  have ho2:=hE.o2
  have hi:Vp r.id=true:=by simp only [Vp,decide_eq_true_eq,r];omega
  have h4:r.id≠f[k].node.id:=fun h=>by have:=congrArg Id.op h;simp only [r] at this;omega
  have h5:r.id∉f[k].node.path:=fun h=>by have:=hE.pa _ h;simp only [r] at this;omega
  have hd':0≤r.call.dest∧r.call.dest < 64:=by simp only [r];omega
  have hc:0≤r.call.core∧r.call.core < 32:=by simp only [r];omega
  have hid:∀ e∈f,e.node.id≠r.id:=fun e he h=>by have:=(hf.all e he).o2;have h':=congrArg Id.op h;simp only [r] at h';omega
  have hpl:∀ e∈f,¬ (e.core=r.call.core∧e.slot=r.call.dest):=fun e he h=>by have:=(hf.all e he).c1;have h':=h.1;simp only [r] at h';omega
  have hrq:Zq5 r:=⟨hi,rfl,show (2:Int)≤4 by decide,show (4:Int)≤6 by decide,rfl,rfl,hE.ok⟩
  by_cases h8:f[k].node.path.length=8
  ·have e14:=s14 (f.map Zd) r hrq (Zr4 (f.map Zd) E0 r rfl 0 E0 E0 E0 (ZpH f (by omega) hf.asc k hk E0 r 0 E0 E0 E0 rfl rfl rfl hE.ok hi h4 h5 hd' hc h8))
   have e8':cop .eql (List.length (Zc f[k].node.path):Int) 8=true:=by simp only [CQ,Z4];omega
   exact Za e14 (Zb (fun _=>Zb (fun _=>ZA (WY ..) (Zb (fun _=>Za e8 (Zf rfl)) fun h=>(h (by kernel_rfl)).elim)) fun h=>(h (by kernel_rfl)).elim) fun h=>absurd e8' h)
  ·have hx:(KT r f[k].node T).node.path.length≤20:=by simp [KT,KA];omega
   have hlen:=Zeg f (KT r f[k].node T)
   have hF2:=ZlI hF (by omega) hx hid hpl
   have e14:=s14 (f.map Zd) r hrq (Zr4 (f.map Zd) E0 r rfl 0 E0 E0 E0 (Zrb f (by omega) hf.asc k hk E0 r 0 E0 E0 E0 rfl rfl rfl hF hE.ok hi h4 h5 hd' hc h8 hid hpl))
   have e8':¬ cop .eql (List.length (Zc f[k].node.path):Int) 8=true:=by simp only [CQ,Z4];omega
   refine Za e14 (Zb (fun h=>absurd h e8') fun _=>Zb (fun h=>?_) fun _=>ZA (WY ..) (Zb (fun h=>?_) fun _=>ZA (WY ..) (Zb (fun h=>?_) fun _=>ZA (WY ..) (Zb (fun h=>?_) fun _=>Za (s21 (VZ f (KT r f[k].node T)) hF2 (by omega) E0 r 1 [[I T]] E0 E0) (Zb (fun h=>?_) fun _=>Zz (place err 2 (by omega) (by omega)) fun b hb=>Znb hb.1 hb.2 fun bad hbad=>Za (s18 f hF (by omega) hf.asc (KT r f[k].node T) hx hid hpl [[I T]] r hi rfl rfl hc bad (by omega)) ?_)))))
   ·exact Bool.noConfusion (show false=true from h)
   ·exact Bool.noConfusion (show false=true from h)
   ·exfalso;simp only [mV,CQ] at h;exact h rfl
   ·exact Bool.noConfusion (show false=true from h)
   ·exfalso
    have e:iop .add .i64 (f.length:Int) 1=(f.length:Int)+1:=YU (by omega) (by omega)
    simp only [CQ,List.length_map,e] at h
    omega
   ·refine Zb (fun _=>Zb (fun _=>ZA (WY ..) (Zb (fun _=>ZA (WY ..) (Zb (fun _=>ZA (WY ..) (Zb (fun _=>Za (s21 f hF (by omega) E0 r 5 E0 E0 E0) (Za (s20 f hF (by omega)) (Zb (fun _=>Za e8 (Zf rfl)) fun h=>absurd rfl h))) fun h=>absurd rfl h)) fun h=>?_)) fun h=>(h (by kernel_rfl)).elim)) fun h=>(h (by kernel_rfl)).elim) fun h=>(h (by kernel_rfl)).elim
    exact (h (by simp only [mV,CQ])).elim
 obtain ⟨r,e,rfl⟩:=key
 exact e
end Go.Proofs.YtlgmnddelljbmaaGreat
end
