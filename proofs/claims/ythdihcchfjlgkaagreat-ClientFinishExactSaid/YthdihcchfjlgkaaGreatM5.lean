/- EndT5, T511a, T511b, T512a, T512d, T518a, T518b, T518c, T518d, T518e, T518f, T518g, T518h, T518i, T518j: texts of the proof, put together. -/
import Derived.Test.YthdihcchfjlgkaaGreatRows
import Derived.Test.YthdihcchfjlgkaaGreatChecked
import Derived.Test.YthdihcchfjlgkaaGreatM4
import Derived.JoinedOf
import Derived.JoinedAt
import Derived.RowKit3
import Derived.KernelRfl
import Derived.Test.YthdihcchfjlgkaaGreatF5d

section
namespace Go.Proofs.YthdihcchfjlgkaaGreat
open Go Go.AM
set_option maxRecDepth 100000
theorem behind : ∃ ws, behindMainWord (wordsSigns Tryz.prog.initOrder.toList) = "cut".toList :: ws := by
 have h:Tryz.prog.initOrder.toList=_:=String.toList_ofList (l:=_)
 rw [h]
 exact ZgF (by kernel_rfl) (by kernel_rfl) (by kernel_rfl) (by kernel_rfl) (by kernel_rfl) (by kernel_rfl)
theorem ZvB:Tryz.prog.mayEnter=true:=behind.elim fun _ h=>Go.AM.enters_of h (by kernel_rfl) (by kernel_rfl) (by kernel_rfl)
theorem Zyn:Tryz.prog.liftsFinal=false:=behind.elim fun _ h=>Go.AM.final_of h
theorem Zus:Tryz.prog.make=some .cut:=behind.elim fun _ h=>Go.AM.make_of h
theorem ZBi:laidOutB Tryz.prog=true:=by kernel_rfl
theorem ZmW:ownKnob Tryz.prog.godebug=none:=by kernel_rfl
theorem ZD {d:Nat} {cs:List AV} (h:TyR Tryz.prog (d+1) 3 cs):∃ z,cs = [I z]:=by
 simp only [TyR,Tryz.underlying3] at h
 obtain ⟨z,h,_⟩:=h
 exact ⟨z,h⟩
theorem Zc8 {d:Nat} {cs:List AV} (h:TyR Tryz.prog (d+1) 4 cs):∃ z,cs = [B z]:=by
 simp only [TyR,Tryz.underlying4] at h
 exact h
theorem ZvV {d:Nat} {cs:List AV} (h:TyR Tryz.prog (d+2) 31 cs):∃ k b s r w l dv,cs = [I k,I b,I s,I r,I w,I l,B dv]:=by
 rw [TyR] at h
 simp only [Tryz.underlying31] at h
 obtain ⟨ps,rfl,hl,hp⟩:=h
 obtain ⟨p0,p1,p2,p3,p4,p5,p6,rfl⟩:∃ p0 p1 p2 p3 p4 p5 p6,ps = [p0,p1,p2,p3,p4,p5,p6]:=by
  match ps,hl with
  | [p0, p1, p2, p3, p4, p5, p6], _ => exact ⟨p0, p1, p2, p3, p4, p5, p6, rfl⟩
 obtain ⟨k,rfl⟩:=ZD (hp 0 _ _ rfl rfl)
 obtain ⟨b,rfl⟩:=ZD (hp 1 _ _ rfl rfl)
 obtain ⟨s,rfl⟩:=ZD (hp 2 _ _ rfl rfl)
 obtain ⟨r,rfl⟩:=ZD (hp 3 _ _ rfl rfl)
 obtain ⟨w,rfl⟩:=ZD (hp 4 _ _ rfl rfl)
 obtain ⟨l,rfl⟩:=ZD (hp 5 _ _ rfl rfl)
 obtain ⟨dv,rfl⟩:=Zc8 (hp 6 _ _ rfl rfl)
 exact ⟨k,b,s,r,w,l,dv,rfl⟩
theorem arg_int {x:AV} (h:VH Tryz.prog 12 3 x):∃ z,x=I z:=by
 simp only [VH,Tryz.underlying3] at h
 obtain ⟨z,hz⟩:=ZD h.2
 exact ⟨z,by simpa using hz⟩
def ZhF (z:Int):List AV:=[I z]
def Za (l:List Int):List (List AV):=l.map ZhF
structure Id where
 core:Int
 op:Int
 part:Int
 deriving DecidableEq
def idc (i:Id):List AV:=[I i.core,I i.op,I i.part]
def Zb (l:List Id):List (List AV):=l.map idc
theorem JL {α β:Type} {f:α→β} {p:α→Prop} : ∀ (xs:List β),(∀ x∈xs,∃ a,x=f a∧p a)→∃ l:List α,xs=l.map f∧∀ a∈l,p a
 | [], _ => ⟨[], rfl, by simp⟩
 | x :: xs, h => by
  obtain ⟨a,h1,h2⟩:=h x (by simp)
  obtain ⟨l,h3,h4⟩:=JL xs fun y hy=>h y (by simp [hy])
  refine ⟨a :: l,by rw [h1,h3]; rfl,fun b hb=>?_⟩
  rcases List.mem_cons.1 hb with rfl | hb
  ·exact h2
  ·exact h4 b hb
theorem Zpy:Tryz.prog.cellsOf 3=1:=by kernel_rfl
theorem Zqb:Tryz.prog.cellsOf 25=3:=by kernel_rfl
theorem Zn6 {x:AV} (h:VH Tryz.prog 12 37 x):∃ l,x = .slice false 1 (Za l)∧l.length≤maxLen:=by
 simp only [VH,Tryz.underlying37] at h
 have hh:=h.2
 rw [TyR] at hh
 simp only [Tryz.underlying37,Zpy] at hh
 obtain ⟨xs,h1,h2,h3⟩:=hh
 obtain ⟨l,rfl,h5⟩:=JL (f:=ZhF) (p:=fun _=>True) xs fun y hy=>by
  have:=h3 y hy
  rw [TyR] at this
  simp only [Tryz.underlying3] at this
  obtain ⟨z,rfl,hz⟩:=this
  exact ⟨z,rfl,trivial⟩
 exact ⟨l,by simpa [Za] using h1,by simpa using h2⟩
theorem Zif {d:Nat} {cs:List AV} (h:TyR Tryz.prog (d+2) 25 cs):∃ i:Id,cs=idc i:=by
 rw [TyR] at h
 simp only [Tryz.underlying25] at h
 obtain ⟨ps,rfl,hl,hp⟩:=h
 obtain ⟨p0,p1,p2,rfl⟩:∃ p0 p1 p2,ps = [p0,p1,p2]:=by
  match ps,hl with
  | [p0, p1, p2], _ => exact ⟨p0, p1, p2, rfl⟩
 obtain ⟨k,rfl⟩:=ZD (hp 0 _ _ rfl rfl)
 obtain ⟨b,rfl⟩:=ZD (hp 1 _ _ rfl rfl)
 obtain ⟨s,rfl⟩:=ZD (hp 2 _ _ rfl rfl)
 exact ⟨⟨k,b,s⟩,rfl⟩
theorem ZmI {d:Nat} {cs:List AV} (h:TyR Tryz.prog (d+3) 29 cs):∃ l,cs = [.slice false 3 (Zb l)]∧l.length≤maxLen:=by
 rw [TyR] at h
 simp only [Tryz.underlying29,Zqb] at h
 obtain ⟨xs,h1,h2,h3⟩:=h
 obtain ⟨l,rfl,h5⟩:=JL (f:=idc) (p:=fun _=>True) xs fun y hy=>by
  obtain ⟨i,hi⟩:=Zif (h3 y hy)
  exact ⟨i,hi,trivial⟩
 exact ⟨l,h1,by simpa using h2⟩
def ZrC:List TypeId:=[3,22,23,49,37,50]
theorem ZzF (t:TypeId) (h:ZrC.contains t=true):Zb1 Tryz.prog 12 t=true∧t < Tryz.prog.types.size∧Tryz.prog.readableRec t=true:=by
 have h2:ZrC.all (fun t=>Zb1 Tryz.prog 12 t&&decide (t < Tryz.prog.types.size)&&Tryz.prog.readableRec t)=true:=by kernel_rfl
 rw [List.all_eq_true] at h2
 have:=h2 t (by simpa using h)
 simpa [and_assoc] using this
end Go.Proofs.YthdihcchfjlgkaaGreat
end

section
namespace Go.Proofs.YthdihcchfjlgkaaGreat
open Go Go.AM
set_option linter.unusedSimpArgs false
set_option linter.unusedVariables false
set_option maxRecDepth 100000
def VO (k b:Int):Bool:=decide ((k=1∧6≤b∧b≤40)∨(k=2∧12≤b∧b≤40)∨(k=3∧b=12)∨(k=4∧b=6)∨(k=5∧b=10)∨(k=6∧b=16))
theorem ZBO (k b:Int):Zyp k b=some (VO k b):=by
 rw [Zr3]
 repeat' split
 all_goals (refine congrArg some ?_; rw [Zh]; simp only [VO,CQ] at *; omega)
def Zio (k:Int):Int:=if k=3 then 12 else if k=4 then 6 else if k=5 then 10 else if k=6 then 16 else 0
theorem ZAC (k:Int):ZyJ k=some (Zio k):=by
 rw [ZrA]
 simp only [CQ,Zio]
 repeat' split
 all_goals first | rfl | omega
theorem s91 (k b:Int):g91 k b=some (VO k b):=by
 rw [ZtA]
 simp only [ZAC,Option.bind_some]
 repeat' split
 all_goals (refine congrArg some ?_; rw [Zh]; simp only [VO,CQ] at *; first | omega | (rcases (by omega:k=3∨k=4∨k=5∨k=6) with rfl | rfl | rfl | rfl <;> simp [Zio]))
def Zc5 (w l:Int):Bool:=decide ((w=32∧0≤l∧l≤1)∨(w=39∧0≤l∧l≤2))
theorem ZAp (w l:Int):Zzb w l=some (Zc5 w l):=by
 rw [Zp0]
 repeat' split
 all_goals (refine congrArg some ?_; rw [Zh]; simp only [Zc5,CQ] at *; omega)
theorem s92 (w l:Int):g92 w l=some (Zc5 w l):=by
 rw [Ztu]
 repeat' split
 all_goals (refine congrArg some ?_; rw [Zh]; simp only [Zc5,CQ] at *; omega)
def K4 (a b:Int):Bool:=decide (6≤b∧b≤40∧0≤a∧a % 2 ^ b.toNat=0∧a+2 ^ b.toNat≤1099511627776)
theorem ZjQ {b:Int} (h:b≤40):(2:Int) ^ b.toNat≤1099511627776:=by
 have:=ZmM (m:=b.toNat) (n:=40) (by omega)
 have e:(2:Int) ^ 40=1099511627776:=by decide
 omega
theorem Ziu {a:Int} {n:Nat} (h:0≤a):iop .rem .i64 a (2 ^ n)=a % 2 ^ n:=Int.tmod_eq_emod_of_nonneg h
theorem ZtC {b:Int} (h:b≤40):iop .sub .i64 1099511627776 (2 ^ b.toNat)=1099511627776 - 2 ^ b.toNat:=by
 have:=ZjQ h
 have:=Yy b.toNat
 exact Zbv (by omega) (by omega)
theorem ZBM (a b:Int):Zzr a b=some (K4 a b):=by
 have hp:=Yy b.toNat
 rw [Zr1]
 by_cases h1:6≤b∧b≤40∧0≤a
 ·obtain ⟨h1,h2,h3⟩:=h1
  have hs:iop .shl .i64 1 b=2 ^ b.toNat:=Zs1 (by omega)
  have hr:ZA ((0:Int)≤b)=fun (x:Option Bool)=>x:=funext fun x=>Zn (by omega) x
  have hn:ZA (((2:Int) ^ b.toNat)≠0)=fun (x:Option Bool)=>x:=funext fun x=>Zn (by omega) x
  simp only [hs,hr,hn,Ziu h3,ZtC h2]
  repeat' split
  all_goals (refine congrArg some ?_; rw [Zh]; simp only [K4,CQ] at *; omega)
 ·have hf:K4 a b=false:=by simp only [K4,decide_eq_false_iff_not]; omega
  rw [hf]
  repeat' split
  all_goals first | rfl | (exfalso; simp only [CQ] at *; omega)
theorem ZwC (a b:Int):ZpX a b=some (K4 a b):=by
 have hp:=Yy b.toNat
 rw [ZqZ]
 by_cases h1:6≤b∧b≤40∧0≤a
 ·obtain ⟨h1,h2,h3⟩:=h1
  have hw:IntKind.wrap .u64 b=b:=KP (by omega) (by omega)
  have hs:iop .shl .i64 1 b=2 ^ b.toNat:=Zs1 (by omega)
  have hr:ZA ((0:Int)≤b)=fun (x:Option Bool)=>x:=funext fun x=>Zn (by omega) x
  have hn:ZA (((2:Int) ^ b.toNat)≠0)=fun (x:Option Bool)=>x:=funext fun x=>Zn (by omega) x
  have h40:=ZjQ h2
  simp only [hw,hs,hr,hn,Ziu h3]
  repeat' split
  all_goals (refine congrArg some ?_; rw [Zh]; simp only [K4,CQ] at *; first | omega | (rw [Y8 (by omega) (by omega)] at *; omega))
 ·have hf:K4 a b=false:=by simp only [K4,decide_eq_false_iff_not]; omega
  rw [hf]
  repeat' split
  all_goals first | rfl | (exfalso; simp only [CQ] at *; omega)
def ZbQ (a b:Int):Int:=if K4 a b=true then a+2 ^ b.toNat else 0
theorem Ze4 {a b:Int} (h:K4 a b=true):6≤b∧b≤40∧0≤a∧a % 2 ^ b.toNat=0∧a+2 ^ b.toNat≤1099511627776:=by simpa [K4] using h
theorem ZqN {a b:Int} (h:K4 a b=true):iop .add .i64 a (iop .shl .i64 1 b)=ZbQ a b:=by
 obtain ⟨h1,h2,h3,h4,h5⟩:=Ze4 h
 have:=Yy b.toNat
 rw [Zs1 (by omega),Y8 (by omega) (by omega),ZbQ,if_pos h]
def Zs8 (a b c d:Int):Bool:=K4 a b&&K4 c d&&decide (a < ZbQ c d)&&decide (c < ZbQ a b)
def inB (a b c d:Int):Bool:=K4 a b&&K4 c d&&decide (a≤c)&&decide (ZbQ c d≤ZbQ a b)
structure Cap where
 kind:Int
 base:Int
 bits:Int
 rights:Int
 width:Int
 level:Int
 device:Bool
theorem ZBB (k b s r w l:Int) (d:Bool):Zyy k b s r w l d=some (b,s):=ZqM ..
theorem s87 (k b s r w l:Int) (d:Bool):g87 k b s r w l d=some (b,s):=ZvT ..
def VG (c:Cap):Bool:=VO c.kind c.bits&&K4 c.base c.bits&&decide (0≤c.rights∧c.rights≤7)&&(if c.kind=3 then Zc5 c.width c.level else decide (c.width=0∧c.level=0))&&(!c.device||decide (c.kind=1)||decide (c.kind=2))
theorem ZAw (k b s r w l:Int) (d:Bool):Zyj k b s r w l d=some (VG ⟨k,b,s,r,w,l,d⟩):=by
 rw [Zsl]
 simp only [ZBO,ZBB,ZBM,ZAp,Option.bind_some]
 repeat' split
 all_goals (refine congrArg some ?_; rw [Zh]; simp only [VG,CQ] at *; grind)
theorem s90 (k b s r w l:Int) (d:Bool):g90 k b s r w l d=some (VG ⟨k,b,s,r,w,l,d⟩):=by
 rw [Ztp]
 simp only [s91,s87,ZwC,s92,Option.bind_some]
 repeat' split
 all_goals (refine congrArg some ?_; rw [Zh]; simp only [VG,CQ] at *; grind)
end Go.Proofs.YthdihcchfjlgkaaGreat
end

section
namespace Go.Proofs.YthdihcchfjlgkaaGreat
open Go Go.AM
set_option linter.unusedSimpArgs false
set_option linter.unusedVariables false
set_option maxRecDepth 100000
def Znc (obj a sz bits r w l:Int) (d:Bool) (j:Nat):List AV:=[I obj,I (a+j * sz),I bits,I r,I w,I l,B d]
def Y0 (obj a sz bits r w l:Int) (d:Bool) (n:Nat):List (List AV):=(List.range n).map (Znc obj a sz bits r w l d)
theorem Ze0 (obj a sz bits r w l:Int) (d:Bool) (n:Nat):Y0 obj a sz bits r w l d (n+1)=Y0 obj a sz bits r w l d n++[Znc obj a sz bits r w l d n]:=by
 simp [Y0,List.range_succ]
theorem ZbU (obj a sz bits r w l:Int) (d:Bool) (n:Nat):(Y0 obj a sz bits r w l d n).length=n:=by simp [Y0]
theorem Zbx {n:Nat} (h:n < 2 ^ 64):n < Zw:=by
 have:Zw=1208925819614629174706176:=rfl
 omega
theorem Znk {a b:List (List AV)} {k:Nat} (h:(a.length+b.length) * (k+1)≤1099511627776):Jy a b k:=h
theorem ZnN {k b:Int} (h:VO k b=true):6≤b∧b≤40:=by
 simp only [VO,decide_eq_true_eq] at h
 omega
theorem ZqY {c:Cap} (h:VG c=true):K4 c.base c.bits=true:=by
 simp only [VG,Bool.and_eq_true] at h
 exact h.1.1.1.2
def Zdn (c:Cap) (obj bits level width off cnt:Int):Int:=
 if VG c=false∨c.kind≠1 then 5
 else if iop .and .i64 c.rights 2=0 then 8
 else if VO obj bits=false∨(obj=3∧Zc5 width level=false)∨cnt < 1∨8 < cnt∨off < 0 then 1
 else if c.device=true∧obj≠1∧obj≠2 then 5
 else if off % 2 ^ bits.toNat≠0∨2 ^ c.bits.toNat - cnt * 2 ^ bits.toNat < off∨(obj=1∧c.bits≤bits) then 6
 else 0
def Wm (c:Cap) (obj bits level width off cnt:Int):List (List AV):=
 if Zdn c obj bits level width off cnt=0 then Y0 obj (c.base+off) (2 ^ bits.toNat) bits c.rights (if obj=3 then width else 0) (if obj=3 then level else 0) c.device cnt.toNat else []
theorem ZhW {c:Cap} {obj bits level width off cnt e:Int} (he:e≠0) (h:Zdn c obj bits level width off cnt=e) :
  some (([] : List (List AV)),e)=some (Wm c obj bits level width off cnt,Zdn c obj bits level width off cnt):=by
 simp only [Wm,h,if_neg he]
theorem Zpu {c:Cap} {obj bits off cnt:Int} (hc:VG c=true) (hs:VO obj bits=true) (h1:1≤cnt) (h2:cnt≤8) (h3:0≤off) :
  iop .shl .i64 1 bits=2 ^ bits.toNat∧iop .rem .i64 off (2 ^ bits.toNat)=off % 2 ^ bits.toNat∧iop .shl .i64 1 c.bits=2 ^ c.bits.toNat∧iop .mul .i64 cnt (2 ^ bits.toNat)=cnt * 2 ^ bits.toNat∧
   iop .sub .i64 (2 ^ c.bits.toNat) (cnt * 2 ^ bits.toNat)=2 ^ c.bits.toNat - cnt * 2 ^ bits.toNat∧(2:Int) ^ bits.toNat≠0∧0≤bits∧0≤c.bits∧0≤c.base∧c.base+2 ^ c.bits.toNat≤1099511627776∧
   0 < (2:Int) ^ bits.toNat∧(2:Int) ^ bits.toNat≤1099511627776∧(2:Int) ^ bits.toNat≤cnt * 2 ^ bits.toNat∧0 < (2:Int) ^ c.bits.toNat∧bits≤40∧c.bits≤40:=by
 obtain ⟨b1,b2⟩:=ZnN hs
 obtain ⟨r1,r2,r3,r4,r5⟩:=Ze4 (ZqY hc)
 have p1:=Yy bits.toNat
 have p2:=Yy c.bits.toNat
 have q1:=ZjQ b2
 have q2:=ZjQ r2
 have m1:cnt * 2 ^ bits.toNat≤8 * 2 ^ bits.toNat:=Int.mul_le_mul_of_nonneg_right (by omega) (by omega)
 have m2:1 * 2 ^ bits.toNat≤cnt * 2 ^ bits.toNat:=Int.mul_le_mul_of_nonneg_right (by omega) (by omega)
 refine ⟨Zs1 (by omega),Ziu (by omega),Zs1 (by omega),Zs9 (by omega) (by omega),ZkY (by omega) (by omega),by omega,by omega,by omega,r3,r5,p1,q1,by omega,p2,b2,r2⟩
theorem ZiW {γ:Type} {p:Prop} {_:Decidable p} (h:p):(ZA p:Option γ→Option γ)=fun x=>x:=funext fun x=>Zn h x
theorem ZzC:∃ f,Zw=f+1+1+1+1+1+1:=⟨Zw - 6,by decide⟩
end Go.Proofs.YthdihcchfjlgkaaGreat
end

section
namespace Go.Proofs.YthdihcchfjlgkaaGreat
open Go Go.AM
set_option linter.unusedSimpArgs false
set_option linter.unusedVariables false
set_option maxRecDepth 100000
abbrev ZAc:List Sh:=[.int .i64,.int .i64,.int .i64]
def WM (i:Id):Bool:=decide (0≤i.core∧i.core < 32∧1≤i.op∧i.op≤1073741824∧0≤i.part∧i.part < 8)
theorem Zu5 (a b c:Int):Zr4 a b c=some (WM ⟨a,b,c⟩):=by
 rw [Zsj]
 repeat' split
 all_goals (refine congrArg some ?_; rw [Zh]; simp only [WM,CQ] at *; omega)
theorem ZBZ (a:Int):ZwK a=some false:=by
 rw [ZrR]
 simp [cop]
def ZpM (a b:Int):Int:=if a < b then -1 else if b < a then 1 else 0
theorem ZA7 (a b:Int):Zvj a b=some (ZpM a b):=by
 rw [ZqR]
 simp only [ZBZ,Option.bind_some,Bool.false_eq_true,if_false]
 by_cases h1:a < b
 ·rw [if_pos (by simp only [CQ]; omega),ZpM,if_pos h1]
 ·by_cases h2:b < a
  ·rw [if_neg (by simp only [CQ]; omega),if_pos (by simp only [CQ]; omega),ZpM,if_neg h1,if_pos h2]
  ·rw [if_neg (by simp only [CQ]; omega),if_neg (by simp only [CQ]; omega),ZpM,if_neg h1,if_neg h2]
def W3 (x y z:Int):Int:=if x≠0 then x else if y≠0 then y else z
theorem ZBA (x y z:Int):Zx4 (((([] : List (List AV))++[[AV.val (.int .i64 x)]])++[[AV.val (.int .i64 y)]])++[[AV.val (.int .i64 z)]])=some (W3 x y z):=by
 obtain ⟨f,hf⟩:=ZzC
 have e:(((([] : List (List AV))++[[AV.val (.int .i64 x)]])++[[AV.val (.int .i64 y)]])++[[AV.val (.int .i64 z)]]) = [ZhF x,ZhF y,ZhF z]:=rfl
 have e1:iop .add .i64 0 1=1:=by decide
 have e2:iop .add .i64 1 1=2:=by decide
 have e3:iop .add .i64 2 1=3:=by decide
 have hl:(([ZhF x,ZhF y,ZhF z] : List (List AV)).length:Int)=3:=rfl
 rw [ZrE,e,hf,hl]
 rw [Zax,if_pos (by decide),Zah (sh:=[.int .i64]) (cs:=ZhF x) (r:=x) _ (by decide) rfl rfl]
 by_cases hx:x=0
 ·rw [if_neg (by simp only [CQ]; omega),e1,Zax,if_pos (by decide),Zah (sh:=[.int .i64]) (cs:=ZhF y) (r:=y) _ (by decide) rfl rfl]
  by_cases hy:y=0
  ·rw [if_neg (by simp only [CQ]; omega),e2,Zax,if_pos (by decide),Zah (sh:=[.int .i64]) (cs:=ZhF z) (r:=z) _ (by decide) rfl rfl]
   by_cases hz:z=0
   ·rw [if_neg (by simp only [CQ]; omega),e3,Zax,if_neg (by decide)]
    simp [W3,hx,hy,hz]
   ·rw [if_pos (by simp only [CQ]; omega)]
    simp [W3,hx,hy]
  ·rw [if_pos (by simp only [CQ]; omega)]
   simp [W3,hx,hy]
 ·rw [if_pos (by simp only [CQ]; omega)]
  simp [W3,hx]
theorem s69 (a b c d e f:Int):g69 a b c d e f=some (W3 (ZpM a d) (ZpM b e) (ZpM c f)):=by
 rw [ZtZ]
 simp only [ZA7,Option.bind_some,ZBA]
def ZsI (a b c d e f:Int):Bool:=decide (a < d∨(a=d∧(b < e∨(b=e∧c < f))))
theorem s39 (a b c d e f:Int):g39 a b c d e f=some (ZsI a b c d e f):=by
 rw [ZtJ,s69,Option.bind_some]
 refine congrArg some ?_
 rw [Zh]
 simp only [ZsI,CQ,ZpM,W3]
 repeat' split
 all_goals omega
theorem Z1 (l:List Id):(Zb l).length=l.length:=by simp [Zb]
theorem Zjf (l:List Id) (n:Nat):(Zb l).take n=Zb (l.take n):=by simp [Zb,List.map_take]
theorem ZuI {l:List Id} {i:Nat} {x:Id} (h:l[i]? = some x):(Zb l)[i]? = some (idc x):=by simp [Zb,h]
theorem WW {γ:Type} {l:List Id} {i:Int} {x:Id} (k:(Int×Int×Int)→Option γ) (h0:0≤i) (h:l[i.toNat]? = some x):Zl (Zb l) i ZAc k=k (x.core,x.op,x.part):=
 Zah (sh:=ZAc) (r:=(x.core,x.op,x.part)) k h0 (ZuI h) rfl
theorem JO (a b c d e f:Int):((cop .eql a d&&(cop .eql b e&&(cop .eql c f&&true)))=true)↔((⟨a,b,c⟩:Id)=⟨d,e,f⟩):=by
 simp only [CQ,Id.mk.injEq,and_true]
theorem ZBf {l:List Id} (hl:l.length < 2 ^ 63) (a b c:Int):∀ (j i fuel:Nat),l.length=i+j→j < fuel→∃ r,Zhw fuel (Zb l) a b c (l.length:Int) i=some r∧(0≤r↔(⟨a,b,c⟩:Id)∈l.drop i):=by
 intro j
 induction j with
 | zero =>
  intro i fuel h hf
  obtain ⟨f,rfl⟩:∃ f,fuel=f+1:=⟨fuel - 1,by omega⟩
  refine ⟨-1,by rw [ZgU,if_neg (by simp only [CQ]; omega)],?_⟩
  rw [List.drop_of_length_le (by omega)]
  simp
 | succ j ih =>
  intro i fuel h hf
  obtain ⟨f,rfl⟩:∃ f,fuel=f+1:=⟨fuel - 1,by omega⟩
  have hi:i < l.length:=by omega
  have hat:l[(i:Int).toNat]? = some l[i]:=by simp
  have a4:iop .add .i64 i 1=((i+1:Nat):Int):=by rw [Y8 (by omega) (by omega)]; omega
  rw [ZgU,if_pos (by simp only [CQ]; omega),WW _ (by omega) hat,a4,List.drop_eq_getElem_cons hi]
  by_cases he:(⟨a,b,c⟩:Id)=l[i]
  ·refine ⟨i,?_,?_⟩
   ·rw [if_pos]
    rw [JO]
    exact he
   ·rw [List.mem_cons]
    exact ⟨fun _=>.inl he,fun _=>by omega⟩
  ·obtain ⟨r,h1,h2⟩:=ih (i+1) f (by omega) (by omega)
   refine ⟨r,?_,?_⟩
   ·rw [if_neg,h1]
    rw [JO]
    exact he
   ·rw [h2,List.mem_cons]
    simp [he]
theorem ZBd (l:List Id) (hl:l.length < 2 ^ 63) (a b c:Int):Zxw (Zb l) a b c=some (l.contains ⟨a,b,c⟩):=by
 obtain ⟨r,h1,h2⟩:=ZBf hl a b c l.length 0 Zw (by omega) (Zbx (by omega))
 rw [Zsa,Zrn,Z1]
 have h1':Zhw Zw (Zb l) a b c (l.length:Int) 0=some r:=h1
 rw [h1',Option.bind_some]
 refine congrArg some ?_
 rw [Zh]
 simp only [CQ,List.contains_iff_mem]
 rw [List.drop_zero] at h2
 exact h2
structure Yr where
 id:Id
 path:List Id
 cap:Cap
def VA (n:Yr) (i:Nat):Bool:=match n.path[i]? with | none=>true | some x=>WM x&&decide (x≠n.id)&&!(n.path.take i).contains x
def ZK (n:Yr):Bool:=WM n.id&&VG n.cap&&decide (n.path.length≤8)&&(List.range n.path.length).all (VA n)
theorem ZAr (n:Yr) (hl:n.path.length < 2 ^ 63):∀ (j i fuel:Nat),n.path.length=i+j→j < fuel→
  Zj6 fuel n.id.core n.id.op n.id.part (Zb n.path) n.cap.kind n.cap.base n.cap.bits n.cap.rights n.cap.width n.cap.level n.cap.device (Zb n.path) (n.path.length:Int) i=some ((List.range' i j).all (VA n)):=by
 intro j
 induction j with
 | zero =>
  intro i fuel h hf
  obtain ⟨f,rfl⟩:∃ f,fuel=f+1:=⟨fuel - 1,by omega⟩
  rw [Zgz,if_neg (by simp only [CQ]; omega)]
  rfl
 | succ j ih =>
  intro i fuel h hf
  obtain ⟨f,rfl⟩:∃ f,fuel=f+1:=⟨fuel - 1,by omega⟩
  have hi:i < n.path.length:=by omega
  have hat:n.path[(i:Int).toNat]? = some n.path[i]:=by simp
  have a4:iop .add .i64 i 1=((i+1:Nat):Int):=by rw [Y8 (by omega) (by omega)]; omega
  have hp:VA n i=(WM n.path[i]&&decide (n.path[i]≠n.id)&&!(n.path.take i).contains n.path[i]):=by
   unfold VA
   rw [List.getElem?_eq_getElem hi]
  have hlt:(n.path.take i).length < 2 ^ 63:=by rw [List.length_take]; omega
  rw [Zgz,if_pos (by simp only [CQ]; omega),WW _ (by omega) hat,a4,List.range'_succ,List.all_cons,hp]
  simp only [Zu5,Option.bind_some]
  cases h1:WM n.path[i] with
  | false => simp
  | true =>
   rw [if_neg (by simp)]
   by_cases h2:n.path[i]=n.id
   ·rw [if_pos (by rw [JO]; exact h2)]
    simp [h2]
   ·rw [if_neg (by rw [JO]; exact h2),Zn (by omega),Zn (by rw [Z1]; omega),Int.toNat_natCast,Zjf,ZBd _ hlt,Option.bind_some]
    cases h3:(n.path.take i).contains n.path[i] with
    | true => simp
    | false =>
     rw [if_neg (by simp)]
     have:=ih (i+1) f (by omega) (by omega)
     rw [this]
     simp [h2]
theorem ZtE (n:Yr) (hl:n.path.length < 2 ^ 63):ZpI n.id.core n.id.op n.id.part (Zb n.path) n.cap.kind n.cap.base n.cap.bits n.cap.rights n.cap.width n.cap.level n.cap.device=some (ZK n):=by
 rw [Zrz]
 simp only [Zu5,ZAw,Option.bind_some,Z1]
 unfold ZK
 cases h1:WM n.id with
 | false => simp [show (⟨n.id.core, n.id.op, n.id.part⟩ : Id) = n.id from rfl, h1]
 | true =>
  cases h2:VG n.cap with
  | false => simp [show (⟨n.id.core, n.id.op, n.id.part⟩ : Id) = n.id from rfl, h1, show (⟨n.cap.kind, n.cap.base, n.cap.bits, n.cap.rights, n.cap.width, n.cap.level, n.cap.device⟩ : Cap) = n.cap from rfl, h2]
  | true =>
   rw [if_neg (by simp),if_neg (by simp)]
   by_cases h3:n.path.length≤8
   ·rw [if_neg (by simp only [CQ]; omega)]
    have:=ZAr n hl n.path.length 0 Zw (by omega) (Zbx (by omega))
    have e:(List.range' 0 n.path.length)=List.range n.path.length:=(List.range_eq_range' ..).symm
    rw [e] at this
    refine this.trans ?_
    simp [h3]
   ·rw [if_pos (by simp only [CQ]; omega)]
    simp [h3]
end Go.Proofs.YthdihcchfjlgkaaGreat
end

section
namespace Go.Proofs.YthdihcchfjlgkaaGreat
open Go Go.AM
set_option linter.unusedSimpArgs false
set_option linter.unusedVariables false
set_option maxRecDepth 100000
theorem s94 (a b c:Int):g94 a b c=some (WM ⟨a,b,c⟩):=by
 rw [Zva]
 repeat' split
 all_goals (refine congrArg some ?_; rw [Zh]; simp only [WM,CQ] at *; omega)
theorem l58 {l:List Id} (hl:l.length < 2 ^ 63) (a b c:Int):∀ (j i fuel:Nat),l.length=i+j→j < fuel→ZoP fuel (Zb l) a b c i=some ((l.drop i).contains ⟨a,b,c⟩):=by
 intro j
 induction j with
 | zero =>
  intro i fuel h hf
  obtain ⟨f,rfl⟩:∃ f,fuel=f+1:=⟨fuel - 1,by omega⟩
  rw [Zi0,if_neg (by simp only [CQ,Z1]; omega),List.drop_of_length_le (by omega)]
  rfl
 | succ j ih =>
  intro i fuel h hf
  obtain ⟨f,rfl⟩:∃ f,fuel=f+1:=⟨fuel - 1,by omega⟩
  have hi:i < l.length:=by omega
  have hat:l[(i:Int).toNat]? = some l[i]:=by simp
  have a4:iop .add .i64 i 1=((i+1:Nat):Int):=by rw [Y8 (by omega) (by omega)]; omega
  rw [Zi0,if_pos (by simp only [CQ,Z1]; omega),WW _ (by omega) hat,a4,List.drop_eq_getElem_cons hi,List.contains_cons]
  by_cases he:l[i]=(⟨a,b,c⟩:Id)
  ·rw [if_pos (by rw [JO]; exact he)]
   simp [he]
  ·rw [if_neg (by rw [JO]; exact he),ih (i+1) f (by omega) (by omega)]
   have:((⟨a,b,c⟩:Id) == l[i])=false:=by simp; exact fun h=>he h.symm
   rw [this,Bool.false_or]
theorem s58 (l:List Id) (hl:l.length < 2 ^ 63) (a b c:Int):g58 (Zb l) a b c=some (l.contains ⟨a,b,c⟩):=by
 have:=l58 hl a b c l.length 0 Zw (by omega) (Zbx (by omega))
 rw [Ztz]
 exact this
def Zbu (n:Yr) (i:Nat):Bool:=match n.path[i]? with | none=>true | some x=>WM x&&!(n.path.take i).contains x
theorem Zkz (n:Yr):ZK n=(WM n.id&&VG n.cap&&decide (n.path.length≤8)&&(!n.path.contains n.id&&(List.range n.path.length).all (Zbu n))):=by
 unfold ZK
 congr 1
 rw [Zh]
 simp only [Bool.and_eq_true,List.all_eq_true,List.mem_range,Bool.not_eq_true',← Bool.not_eq_true,List.contains_iff_mem]
 constructor
 ·intro h
  refine ⟨fun hc=>?_,fun i hi=>?_⟩
  ·obtain ⟨i,hi⟩:=List.mem_iff_getElem?.1 hc
   have:=h i (List.getElem?_eq_some_iff.1 hi).1
   unfold VA at this
   rw [hi] at this
   simp at this
  ·have:=h i hi
   unfold VA at this
   unfold Zbu
   rw [List.getElem?_eq_getElem hi] at this ⊢
   simp only [Bool.and_eq_true] at this ⊢
   exact ⟨this.1.1,this.2⟩
 ·intro ⟨h1,h2⟩ i hi
  have:=h2 i hi
  unfold Zbu at this
  unfold VA
  rw [List.getElem?_eq_getElem hi] at this ⊢
  simp only [Bool.and_eq_true,decide_eq_true_eq] at this ⊢
  exact ⟨⟨this.1,fun he=>h1 (he ▸ List.getElem_mem hi)⟩,this.2⟩
theorem l93 (n:Yr) (hl:n.path.length < 2 ^ 63):∀ (j i fuel:Nat),n.path.length=i+j→j < fuel→
  Zom fuel n.id.core n.id.op n.id.part (Zb n.path) n.cap.kind n.cap.base n.cap.bits n.cap.rights n.cap.width n.cap.level n.cap.device i=some ((List.range' i j).all (Zbu n)):=by
 intro j
 induction j with
 | zero =>
  intro i fuel h hf
  obtain ⟨f,rfl⟩:∃ f,fuel=f+1:=⟨fuel - 1,by omega⟩
  rw [Zi6,if_neg (by simp only [CQ,Z1]; omega)]
  rfl
 | succ j ih =>
  intro i fuel h hf
  obtain ⟨f,rfl⟩:∃ f,fuel=f+1:=⟨fuel - 1,by omega⟩
  have hi:i < n.path.length:=by omega
  have hat:n.path[(i:Int).toNat]? = some n.path[i]:=by simp
  have a4:iop .add .i64 i 1=((i+1:Nat):Int):=by rw [Y8 (by omega) (by omega)]; omega
  have hp:Zbu n i=(WM n.path[i]&&!(n.path.take i).contains n.path[i]):=by
   unfold Zbu
   rw [List.getElem?_eq_getElem hi]
  have hlt:(n.path.take i).length < 2 ^ 63:=by rw [List.length_take]; omega
  rw [Zi6,if_pos (by simp only [CQ,Z1]; omega),WW _ (by omega) hat,a4,List.range'_succ,List.all_cons,hp]
  simp only [s94,Option.bind_some]
  cases h1:WM n.path[i] with
  | false => simp
  | true =>
   rw [if_neg (by simp),Zn (by omega),Zn (by rw [Z1]; omega),WW _ (by omega) hat,Int.toNat_natCast,Zjf,s58 _ hlt,Option.bind_some]
   cases h3:(n.path.take i).contains n.path[i] with
   | true => simp
   | false =>
    rw [if_neg (by simp)]
    have:=ih (i+1) f (by omega) (by omega)
    rw [this]
    simp
theorem s93 (n:Yr) (hl:n.path.length < 2 ^ 63):g93 n.id.core n.id.op n.id.part (Zb n.path) n.cap.kind n.cap.base n.cap.bits n.cap.rights n.cap.width n.cap.level n.cap.device=some (ZK n):=by
 rw [Ztq,Zkz]
 simp only [s94,s90,Option.bind_some,Z1,s58 _ hl]
 cases h1:WM n.id with
 | false => simp [show (⟨n.id.core, n.id.op, n.id.part⟩ : Id) = n.id from rfl, h1]
 | true =>
  cases h2:VG n.cap with
  | false => simp [show (⟨n.id.core, n.id.op, n.id.part⟩ : Id) = n.id from rfl, h1, show (⟨n.cap.kind, n.cap.base, n.cap.bits, n.cap.rights, n.cap.width, n.cap.level, n.cap.device⟩ : Cap) = n.cap from rfl, h2]
  | true =>
   rw [if_neg (by simp),if_neg (by simp)]
   by_cases h3:n.path.length≤8
   ·rw [if_neg (by simp only [CQ]; omega)]
    cases h4:n.path.contains n.id with
    | true => simp
    | false =>
     rw [if_neg (by simp)]
     have:=l93 n hl n.path.length 0 Zw (by omega) (Zbx (by omega))
     have e:(List.range' 0 n.path.length)=List.range n.path.length:=(List.range_eq_range' ..).symm
     rw [e] at this
     refine this.trans ?_
     simp [h3]
   ·rw [if_pos (by simp only [CQ]; omega)]
    simp [h3]
theorem l83 {l m:List Id} (hl:l.length < 2 ^ 63) (hm:l.length=m.length):∀ (j i fuel:Nat),l.length=i+j→j < fuel→Zpp fuel (Zb l) (Zb m) i=some (decide (l.drop i=m.drop i)):=by
 intro j
 induction j with
 | zero =>
  intro i fuel h hf
  obtain ⟨f,rfl⟩:∃ f,fuel=f+1:=⟨fuel - 1,by omega⟩
  rw [Zj1,if_neg (by simp only [CQ,Z1]; omega),List.drop_of_length_le (by omega),List.drop_of_length_le (by omega)]
  rfl
 | succ j ih =>
  intro i fuel h hf
  obtain ⟨f,rfl⟩:∃ f,fuel=f+1:=⟨fuel - 1,by omega⟩
  have hi:i < l.length:=by omega
  have hi':i < m.length:=by omega
  have hat:l[(i:Int).toNat]? = some l[i]:=by simp
  have hat':m[(i:Int).toNat]? = some m[i]:=by simp
  have a4:iop .add .i64 i 1=((i+1:Nat):Int):=by rw [Y8 (by omega) (by omega)]; omega
  rw [Zj1,if_pos (by simp only [CQ,Z1]; omega),WW _ (by omega) hat,WW _ (by omega) hat',a4,List.drop_eq_getElem_cons hi,List.drop_eq_getElem_cons hi']
  by_cases he:l[i]=m[i]
  ·rw [if_neg (by rw [Bool.not_eq_true',← Bool.not_eq_true,JO]; exact fun h=>h he),ih (i+1) f (by omega) (by omega)]
   simp only [he,List.cons.injEq,true_and]
  ·rw [if_pos (by rw [Bool.not_eq_true',← Bool.not_eq_true,JO]; exact he)]
   simp only [List.cons.injEq,he,false_and,decide_false]
theorem s83 (l m:List Id) (hl:l.length < 2 ^ 63) (hm:m.length < 2 ^ 63):g83 (Zb l) (Zb m)=some (decide (l=m)):=by
 rw [Ztb,Z1,Z1]
 by_cases h:l.length=m.length
 ·rw [if_neg (by simp only [CQ]; omega)]
  have:=l83 hl h l.length 0 Zw (by omega) (Zbx (by omega))
  rw [List.drop_zero,List.drop_zero] at this
  exact this
 ·rw [if_pos (by simp only [CQ]; omega)]
  have:¬ l=m:=fun he=>h (by rw [he])
  simp [this]
end Go.Proofs.YthdihcchfjlgkaaGreat
end

section
namespace Go.Proofs.YthdihcchfjlgkaaGreat
open Go Go.AM
set_option linter.unusedSimpArgs false
set_option linter.unusedVariables false
set_option maxRecDepth 100000
theorem JA {n:Nat} (h:n < 2 ^ 63):n+1 < Zw:=by
 have:(2:Nat) ^ 64≤Zw:=by decide
 omega
theorem ZR {i n:Nat} (h:i < n) (hn:n < 2 ^ 63):iop .add .i64 (i:Int) 1=((i+1:Nat):Int):=by
 rw [Y8 (by omega) (by omega)]; omega
theorem Z2 {i n:Nat} (h:i < n):(cop .lss (i:Int) (n:Int))=true:=by
 simp only [CQ]; omega
theorem ZZ {i n:Nat} (h:n≤i):¬ (cop .lss (i:Int) (n:Int))=true:=by
 simp only [CQ]; omega
theorem ZO {γ:Type} {F:Nat→Int→Option γ} {n:Nat} {fin bad:Option γ} (p:Nat→Bool) (hn:n < 2 ^ 63) (i0:Nat) (hi0:i0≤1)
  (step:∀ k i:Nat,i0≤i→i < n→F (k+1) (i:Int)=if p i=true then F k ((i+1:Nat):Int) else bad)
  (last:∀ k i:Nat,n≤i→F (k+1) (i:Int)=fin):F Zw (i0:Int)=if (List.range' i0 (n - i0)).all p=true then fin else bad:=by
 have key:∀ (j i fuel:Nat),i0≤i→n≤i+j→j < fuel→F fuel (i:Int)=if (List.range' i (n - i)).all p=true then fin else bad:=by
  intro j
  induction j with
  | zero =>
   intro i fuel h0 h hf
   obtain ⟨f,rfl⟩:∃ f,fuel=f+1:=⟨fuel - 1,by omega⟩
   rw [last f i (by omega),show n - i=0 by omega]
   rfl
  | succ j ih =>
   intro i fuel h0 h hf
   obtain ⟨f,rfl⟩:∃ f,fuel=f+1:=⟨fuel - 1,by omega⟩
   by_cases hi:i < n
   ·rw [step f i h0 hi,show n - i=(n - (i+1))+1 by omega,List.range'_succ,List.all_cons]
    cases hp:p i with
    | true => rw [if_pos rfl, ih (i + 1) f (by omega) (by omega) (by omega), Bool.true_and]
    | false => rw [if_neg Bool.false_ne_true, Bool.false_and, if_neg Bool.false_ne_true]
   ·rw [last f i (by omega),show n - i=0 by omega]
    rfl
 exact key n i0 Zw (Nat.le_refl _) (by omega) (by have:=JA hn; omega)
theorem YD {F:Nat→Int→Option Int} {n:Nat} (p:Nat→Bool) (hn:n < 2 ^ 63)
  (step:∀ k i:Nat,i < n→F (k+1) (i:Int)=if p i=true then some (i:Int) else F k ((i+1:Nat):Int))
  (last:∀ k i:Nat,n≤i→F (k+1) (i:Int)=some (-1)):∃ r,F Zw 0=some r∧cop .geq r 0=(List.range' 0 n).any p:=by
 have key:∀ (j i fuel:Nat),n≤i+j→j < fuel→∃ r,F fuel (i:Int)=some r∧cop .geq r 0=(List.range' i (n - i)).any p:=by
  intro j
  induction j with
  | zero =>
   intro i fuel h hf
   obtain ⟨f,rfl⟩:∃ f,fuel=f+1:=⟨fuel - 1,by omega⟩
   rw [last f i (by omega),show n - i=0 by omega]
   exact ⟨_,rfl,rfl⟩
  | succ j ih =>
   intro i fuel h hf
   obtain ⟨f,rfl⟩:∃ f,fuel=f+1:=⟨fuel - 1,by omega⟩
   by_cases hi:i < n
   ·rw [step f i hi,show n - i=(n - (i+1))+1 by omega,List.range'_succ,List.any_cons]
    cases hp:p i with
    | true =>
     rw [if_pos rfl,Bool.true_or]
     refine ⟨_,rfl,?_⟩
     simp only [CQ]
     omega
    | false => rw [if_neg Bool.false_ne_true, Bool.false_or]; exact ih (i + 1) f (by omega) (by omega)
   ·rw [last f i (by omega),show n - i=0 by omega]
    exact ⟨_,rfl,rfl⟩
 have:=key n 0 Zw (by omega) (by have:=JA hn; omega)
 simpa using this
def atB {α:Type} (q:α→Bool) (l:List α) (i:Nat):Bool:=match l[i]? with | some x=>q x | none=>true
theorem Je {α:Type} (q:α→Bool) {l:List α} {i:Nat} (h:i < l.length):atB q l i=q l[i]:=by
 unfold atB
 rw [List.getElem?_eq_getElem h]
theorem Zec {α:Type} (q:α→Bool) (l:List α):(List.range' 0 l.length).all (atB q l)=l.all q:=by
 rw [Zh,List.all_eq_true,List.all_eq_true]
 constructor
 ·intro h x hx
  obtain ⟨i,hi,rfl⟩:=List.getElem_of_mem hx
  have:=h i (by simp [List.mem_range',hi])
  rwa [Je q hi] at this
 ·intro h i hi
  have hi':i < l.length:=by simpa [List.mem_range'] using hi
  rw [Je q hi']
  exact h _ (List.getElem_mem hi')
theorem Wa {α:Type} (q:α→Bool) (l:List α):(List.range' 0 l.length).any (fun i=>!atB q l i) = !(l.all q):=by
 rw [← Zec q l,List.any_eq_not_all_not]
 simp
def Vn {α:Type} (lt:α→α→Bool) (l:List α):Nat→Bool
 | 0 => true
 | j + 1 => match l[j]?, l[j + 1]? with | some a, some b => lt a b | _, _ => true
def KC {α:Type} (lt:α→α→Bool) (l:List α):Bool:=(List.range' 0 l.length).all (Vn lt l)
theorem Kc {α:Type} (lt:α→α→Bool) {l:List α} {j:Nat} (h:j+1 < l.length):Vn lt l (j+1)=lt l[j] l[j+1]:=by
 show (match l[j]?,l[j+1]? with | some a,some b=>lt a b | _,_=>true)=_
 rw [List.getElem?_eq_getElem h,List.getElem?_eq_getElem (show j < l.length by omega)]
theorem Zs4 {α:Type} (lt:α→α→Bool) (l:List α):(List.range' 1 (l.length - 1)).all (Vn lt l)=KC lt l:=by
 unfold KC
 cases l with
 | nil => rfl
 | cons a r => rw [show (a :: r).length = ((a :: r).length - 1) + 1 from rfl, List.range'_succ, List.all_cons]; rfl
theorem Zqy {α:Type} (l:List α) (p q:α→Bool):l.all (fun i=>p i&&q i)=(l.all p&&l.all q):=by
 induction l with
 | nil => rfl
 | cons a r ih => simp only [List.all_cons, ih]; cases p a <;> cases q a <;> cases r.all p <;> rfl
theorem ZcK {α:Type} (q:α→Bool) (lt:α→α→Bool) (l:List α):(List.range' 0 l.length).all (fun i=>atB q l i&&Vn lt l i)=(l.all q&&KC lt l):=by
 rw [Zqy,Zec]; rfl
structure Call where
 kind:Int
 slot:Int
 dest:Int
 core:Int
 mask:Int
 object:Int
 bits:Int
 level:Int
 offset:Int
 count:Int
 index:Int
 addr:Int
structure Req where
 id:Id
 call:Call
 region:Int
 width:Int
 src:Yr
structure Jh where
 node:Yr
 op:Int
 lock:Id
structure ZdR where
 region:Int
 op:Id
structure Ans where
 op:Int
 err:Int
structure ZJ where
 core:Int
 slot:Int
 node:Yr
structure ZhG where
 region:Int
 to:Int
structure ZdT where
 number:Int
 members:List Int
 owners:List Int
structure Kg where
 slots:List Jh
 pending:List Req
 marks:List ZdR
 answers:List Ans
 entries:List ZJ
 commits:List Id
structure Yv where
 core:Int
 view:ZdT
 state:Kg
 ready:Bool
 next:ZdT
 proposal:Kg
def ZP (n:Yr):List AV:=[I n.id.core,I n.id.op,I n.id.part,.slice false 3 (Zb n.path),I n.cap.kind,I n.cap.base,I n.cap.bits,I n.cap.rights,I n.cap.width,I n.cap.level,B n.cap.device]
def Ztc (c:Call):List AV:=[I c.kind,I c.slot,I c.dest,I c.core,I c.mask,I c.object,I c.bits,I c.level,I c.offset,I c.count,I c.index,I c.addr]
def Zt (r:Req):List AV:=[I r.id.core,I r.id.op,I r.id.part,I r.call.kind,I r.call.slot,I r.call.dest,I r.call.core,I r.call.mask,I r.call.object,I r.call.bits,I r.call.level,I r.call.offset,I r.call.count,I r.call.index,I r.call.addr,I r.region,I r.width,I r.src.id.core,I r.src.id.op,I r.src.id.part,.slice false 3 (Zb r.src.path),I r.src.cap.kind,I r.src.cap.base,I r.src.cap.bits,I r.src.cap.rights,I r.src.cap.width,I r.src.cap.level,B r.src.cap.device]
def Zf (s:Jh):List AV:=[I s.node.id.core,I s.node.id.op,I s.node.id.part,.slice false 3 (Zb s.node.path),I s.node.cap.kind,I s.node.cap.base,I s.node.cap.bits,I s.node.cap.rights,I s.node.cap.width,I s.node.cap.level,B s.node.cap.device,I s.op,I s.lock.core,I s.lock.op,I s.lock.part]
def Zj (m:ZdR):List AV:=[I m.region,I m.op.core,I m.op.op,I m.op.part]
def ZF (a:Ans):List AV:=[I a.op,I a.err]
def Z4 (a:ZhG):List AV:=[I a.region,I a.to]
def Zd (e:ZJ):List AV:=[I e.core,I e.slot,I e.node.id.core,I e.node.id.op,I e.node.id.part,.slice false 3 (Zb e.node.path),I e.node.cap.kind,I e.node.cap.base,I e.node.cap.bits,I e.node.cap.rights,I e.node.cap.width,I e.node.cap.level,B e.node.cap.device]
abbrev Zl6:List Sh:=[.int .i64,.int .i64,.int .i64,.slice 3,.int .i64,.int .i64,.int .i64,.int .i64,.int .i64,.int .i64,.bool]
abbrev Zp9:List Sh:=[.int .i64,.int .i64,.int .i64,.int .i64,.int .i64,.int .i64,.int .i64,.int .i64,.int .i64,.int .i64,.int .i64,.int .i64,.int .i64,.int .i64,.int .i64,.int .i64,.int .i64,.int .i64,.int .i64,.int .i64,.slice 3,.int .i64,.int .i64,.int .i64,.int .i64,.int .i64,.int .i64,.bool]
abbrev Zc9:List Sh:=[.int .i64,.int .i64,.int .i64,.slice 3,.int .i64,.int .i64,.int .i64,.int .i64,.int .i64,.int .i64,.bool,.int .i64,.int .i64,.int .i64,.int .i64]
abbrev Zda:List Sh:=[.int .i64,.int .i64,.int .i64,.int .i64,.int .i64,.slice 3,.int .i64,.int .i64,.int .i64,.int .i64,.int .i64,.int .i64,.bool]
def Ze3 (n:Yr):ShsT Zl6:=(n.id.core,n.id.op,n.id.part,Zb n.path,n.cap.kind,n.cap.base,n.cap.bits,n.cap.rights,n.cap.width,n.cap.level,n.cap.device)
def Zje (r:Req):ShsT Zp9:=(r.id.core,r.id.op,r.id.part,r.call.kind,r.call.slot,r.call.dest,r.call.core,r.call.mask,r.call.object,r.call.bits,r.call.level,r.call.offset,r.call.count,r.call.index,r.call.addr,r.region,r.width,r.src.id.core,r.src.id.op,r.src.id.part,Zb r.src.path,r.src.cap.kind,r.src.cap.base,r.src.cap.bits,r.src.cap.rights,r.src.cap.width,r.src.cap.level,r.src.cap.device)
def KV (s:Jh):ShsT Zc9:=(s.node.id.core,s.node.id.op,s.node.id.part,Zb s.node.path,s.node.cap.kind,s.node.cap.base,s.node.cap.bits,s.node.cap.rights,s.node.cap.width,s.node.cap.level,s.node.cap.device,s.op,s.lock.core,s.lock.op,s.lock.part)
def Yf (e:ZJ):ShsT Zda:=(e.core,e.slot,e.node.id.core,e.node.id.op,e.node.id.part,Zb e.node.path,e.node.cap.kind,e.node.cap.base,e.node.cap.bits,e.node.cap.rights,e.node.cap.width,e.node.cap.level,e.node.cap.device)
theorem J9 {α γ:Type} {f:α→List AV} {sh:List Sh} {v:α→ShsT sh} (hf:∀ x,Zmm sh (f x)=some (v x)) {l:List α} {i:Nat} (h:i < l.length) (k:ShsT sh→Option γ):Zl (l.map f) (i:Int) sh k=k (v l[i]):=by
 refine Zah k (by omega) (cs:=f l[i]) ?_ (hf _)
 rw [Int.toNat_natCast,List.getElem?_map,List.getElem?_eq_getElem h]
 rfl
theorem Yu {γ:Type} {l:List Yr} {i:Nat} (h:i < l.length) (k:ShsT Zl6→Option γ):Zl (l.map ZP) (i:Int) Zl6 k=k (Ze3 l[i]):=J9 (fun _=>rfl) h k
theorem Jc {γ:Type} {l:List Req} {i:Nat} (h:i < l.length) (k:ShsT Zp9→Option γ):Zl (l.map Zt) (i:Int) Zp9 k=k (Zje l[i]):=J9 (fun _=>rfl) h k
theorem ZW {γ:Type} {l:List Jh} {i:Nat} (h:i < l.length) (k:ShsT Zc9→Option γ):Zl (l.map Zf) (i:Int) Zc9 k=k (KV l[i]):=J9 (fun _=>rfl) h k
theorem Zu {γ:Type} {l:List ZJ} {i:Nat} (h:i < l.length) (k:ShsT Zda→Option γ):Zl (l.map Zd) (i:Int) Zda k=k (Yf l[i]):=J9 (fun _=>rfl) h k
theorem J6 {γ:Type} {l:List ZdR} {i:Nat} (h:i < l.length) (k:(Int×Int×Int×Int)→Option γ):Zl (l.map Zj) (i:Int) [.int .i64,.int .i64,.int .i64,.int .i64] k=k (l[i].region,l[i].op.core,l[i].op.op,l[i].op.part):=J9 (sh:=[.int .i64,.int .i64,.int .i64,.int .i64]) (v:=fun x=>(x.region,x.op.core,x.op.op,x.op.part)) (fun _=>rfl) h k
theorem Yl {γ:Type} {l:List Ans} {i:Nat} (h:i < l.length) (k:(Int×Int)→Option γ):Zl (l.map ZF) (i:Int) [.int .i64,.int .i64] k=k (l[i].op,l[i].err):=J9 (sh:=[.int .i64,.int .i64]) (v:=fun x=>(x.op,x.err)) (fun _=>rfl) h k
theorem YT {γ:Type} {l:List ZhG} {i:Nat} (h:i < l.length) (k:(Int×Int)→Option γ):Zl (l.map Z4) (i:Int) [.int .i64,.int .i64] k=k (l[i].region,l[i].to):=J9 (sh:=[.int .i64,.int .i64]) (v:=fun x=>(x.region,x.to)) (fun _=>rfl) h k
theorem Wf {γ:Type} {l:List Id} {i:Nat} (h:i < l.length) (k:(Int×Int×Int)→Option γ):Zl (Zb l) (i:Int) [.int .i64,.int .i64,.int .i64] k=k (l[i].core,l[i].op,l[i].part):=J9 (f:=idc) (sh:=[.int .i64,.int .i64,.int .i64]) (v:=fun x=>(x.core,x.op,x.part)) (fun _=>rfl) h k
theorem Z0 {γ:Type} {l:List Int} {i:Nat} (h:i < l.length) (k:Int→Option γ):Zl (Za l) (i:Int) [.int .i64] k=k l[i]:=J9 (f:=ZhF) (sh:=[.int .i64]) (v:=fun x=>x) (fun _=>rfl) h k
theorem Kd (i:Id):(⟨i.core,i.op,i.part⟩:Id)=i:=rfl
end Go.Proofs.YthdihcchfjlgkaaGreat
end

section
namespace Go.Proofs.YthdihcchfjlgkaaGreat
open Go Go.AM
set_option linter.unusedSimpArgs false
set_option linter.unusedVariables false
set_option maxRecDepth 100000
def Zs (z:Int):Bool:=decide (0≤z∧z < 32)
def Z5 (z:Int):Bool:=decide (0≤z∧z < 16)
def Jw (z:Int):Bool:=decide (0≤z∧z < 64)
def Zc6 (z:Int):Bool:=decide (0≤z∧z≤99)
def ZbX (i:Id):Bool:=WM i&&decide (i.part=0)
theorem s77 (z:Int):g77 z=some (Zs z):=by
 rw [ZvC]
 repeat' split
 all_goals (refine congrArg some ?_; rw [Zh]; simp only [Zs,CQ] at *; omega)
theorem s96 (z:Int):g96 z=some (Zs z):=by
 rw [Ztw]
 repeat' split
 all_goals (refine congrArg some ?_; rw [Zh]; simp only [Zs,CQ] at *; omega)
theorem ZwU (z:Int):ZsO z=some (Z5 z):=by
 rw [Zru]
 repeat' split
 all_goals (refine congrArg some ?_; rw [Zh]; simp only [Z5,CQ] at *; omega)
theorem Zv2 (z:Int):ZqO z=some (Z5 z):=by
 rw [ZqI]
 repeat' split
 all_goals (refine congrArg some ?_; rw [Zh]; simp only [Z5,CQ] at *; omega)
theorem ZzV (z:Int):ZwW z=some (Jw z):=by
 rw [ZrO]
 repeat' split
 all_goals (refine congrArg some ?_; rw [Zh]; simp only [Jw,CQ] at *; omega)
theorem ZzS (z:Int):Zws z=some (Zc6 z):=by
 rw [Zri]
 repeat' split
 all_goals (refine congrArg some ?_; rw [Zh]; simp only [Zc6,CQ] at *; omega)
theorem s99 (z:Int):g99 z=some (Zc6 z):=by
 rw [ZuX]
 repeat' split
 all_goals (refine congrArg some ?_; rw [Zh]; simp only [Zc6,CQ] at *; omega)
theorem Zw0 (i:Id):ZsQ i.core i.op i.part=some (ZbX i):=by
 rw [ZrX,Zu5,Option.bind_some,Kd]
 repeat' split
 all_goals (refine congrArg some ?_; rw [Zh]; simp only [ZbX,CQ] at *; grind)
theorem s98 (i:Id):g98 i.core i.op i.part=some (ZbX i):=by
 rw [Zv5,s94,Option.bind_some,Kd]
 repeat' split
 all_goals (refine congrArg some ?_; rw [Zh]; simp only [ZbX,CQ] at *; grind)
theorem ZAR {l m:List Id} (hl:l.length < 2 ^ 63) (h:l.length=m.length):ZcR Zw (Zb l) (Zb m) (l.length:Int) 0=some (decide (l=m)):=by
 have:=ZO (F:=fun k i=>ZcR k (Zb l) (Zb m) (l.length:Int) i) (n:=l.length) (fin:=some true) (bad:=some false) (fun i=>decide (l[i]? = m[i]?)) hl 0 (by omega)
  (fun k i _ hi=>by
   have hm:i < m.length:=by omega
   show ZcR (k+1) _ _ _ _=_
   rw [Zg2,if_pos (Z2 hi),Wf hi,Wf hm,ZR hi hl]
   rw [List.getElem?_eq_getElem hi,List.getElem?_eq_getElem hm]
   by_cases he:l[i]=m[i]
   ·rw [if_neg (by rw [Bool.not_eq_true',← Bool.not_eq_true,JO]; exact fun h=>h he),if_pos (by simp [he])]
   ·rw [if_pos (by rw [Bool.not_eq_true',← Bool.not_eq_true,JO]; exact he),if_neg (by simp [he])])
  (fun k i hi=>by show ZcR (k+1) _ _ _ _=_; rw [Zg2,if_neg (ZZ hi)])
 refine this.trans ?_
 have e:(List.range' 0 (l.length - 0)).all (fun i=>decide (l[i]? = m[i]?))=decide (l=m):=by
  rw [Zh,List.all_eq_true,decide_eq_true_eq]
  constructor
  ·intro hh
   refine List.ext_getElem? fun i=>?_
   by_cases hi:i < l.length
   ·exact of_decide_eq_true (hh i (by simp [List.mem_range',hi]))
   ·rw [List.getElem?_eq_none (by omega),List.getElem?_eq_none (by omega)]
  ·rintro rfl i _
   exact decide_eq_true rfl
 rw [e]
 cases decide (l=m) <;> rfl
theorem ZAT (l m:List Id) (hl:l.length < 2 ^ 63):Zy9 (Zb l) (Zb m)=some (decide (l=m)):=by
 rw [Zqr,Z1,Z1]
 by_cases h:l.length=m.length
 ·rw [if_neg (by simp [cop,h]),ZAR hl h]
 ·rw [if_pos (by simp [cop]; omega)]
  have:¬ l=m:=fun he=>h (by rw [he])
  simp [this]
def KJ (a b:Yr):Bool:=decide (a.id=b.id)&&decide (a.cap.kind=b.cap.kind∧a.cap.base=b.cap.base∧a.cap.bits=b.cap.bits∧a.cap.rights=b.cap.rights∧a.cap.width=b.cap.width∧a.cap.level=b.cap.level∧a.cap.device=b.cap.device)&&decide (a.path=b.path)
theorem Zfk (a b:Cap):(((cop .eql a.kind b.kind)&&((cop .eql a.base b.base)&&((cop .eql a.bits b.bits)&&((cop .eql a.rights b.rights)&&((cop .eql a.width b.width)&&((cop .eql a.level b.level)&&((a.device == b.device)&&true)))))))=true)↔(a.kind=b.kind∧a.base=b.base∧a.bits=b.bits∧a.rights=b.rights∧a.width=b.width∧a.level=b.level∧a.device=b.device):=by
 simp only [CQ,beq_iff_eq,and_true]
theorem ZBJ (a b:Yr) (ha:a.path.length < 2 ^ 63):Zp5 a.id.core a.id.op a.id.part (Zb a.path) a.cap.kind a.cap.base a.cap.bits a.cap.rights a.cap.width a.cap.level a.cap.device b.id.core b.id.op b.id.part (Zb b.path) b.cap.kind b.cap.base b.cap.bits b.cap.rights b.cap.width b.cap.level b.cap.device=some (KJ a b):=by
 rw [ZqX,ZAT _ _ ha,Option.bind_some]
 unfold KJ
 refine Zo (fun h=>?_) fun h=>?_
 ·rw [JO] at h
  refine Zo (fun h2=>?_) fun h2=>?_
  ·rw [Zfk] at h2
   rw [decide_eq_true (show a.id=b.id from h),decide_eq_true h2]; rfl
  ·rw [Zfk] at h2
   rw [decide_eq_true (show a.id=b.id from h),decide_eq_false h2]; rfl
 ·rw [JO] at h
  rw [decide_eq_false (show ¬ a.id=b.id from h)]; rfl
theorem ZtR (a b:Yr) (ha:a.path.length < 2 ^ 63) (hb:b.path.length < 2 ^ 63):g49 a.id.core a.id.op a.id.part (Zb a.path) a.cap.kind a.cap.base a.cap.bits a.cap.rights a.cap.width a.cap.level a.cap.device b.id.core b.id.op b.id.part (Zb b.path) b.cap.kind b.cap.base b.cap.bits b.cap.rights b.cap.width b.cap.level b.cap.device=some (KJ a b):=by
 rw [ZuZ,s83 _ _ ha hb,Option.bind_some]
 unfold KJ
 refine Zo (fun h=>?_) fun h=>?_
 ·rw [JO] at h
  refine Zo (fun h2=>?_) fun h2=>?_
  ·rw [Zfk] at h2
   rw [decide_eq_true (show a.id=b.id from h),decide_eq_true h2]; rfl
  ·rw [Zfk] at h2
   rw [decide_eq_true (show a.id=b.id from h),decide_eq_false h2]; rfl
 ·rw [JO] at h
  rw [decide_eq_false (show ¬ a.id=b.id from h)]; rfl
def ZU:Yr:=⟨⟨0,0,0⟩,[],⟨0,0,0,0,0,0,false⟩⟩
theorem ZrS (a:Yr) (ha:a.path.length < 2 ^ 63):Zp5 a.id.core a.id.op a.id.part (Zb a.path) a.cap.kind a.cap.base a.cap.bits a.cap.rights a.cap.width a.cap.level a.cap.device 0 0 0 ([] : List (List AV)) 0 0 0 0 0 0 false=some (KJ a ZU):=ZBJ a ZU ha
theorem ZAe (a:Yr) (ha:a.path.length < 2 ^ 63):g49 a.id.core a.id.op a.id.part (Zb a.path) a.cap.kind a.cap.base a.cap.bits a.cap.rights a.cap.width a.cap.level a.cap.device 0 0 0 ([] : List (List AV)) 0 0 0 0 0 0 false=some (KJ a ZU):=ZtR a ZU ha (by simp [ZU])
def KK (r:Req):Bool:=ZbX r.id&&decide (1≤r.call.kind∧r.call.kind≤6)&&Z5 r.region&&decide (r.width=32∨r.width=39)&&(if r.call.kind=1 then KJ r.src ZU else ZK r.src)
theorem ZzY (r:Req) (hr:r.src.path.length < 2 ^ 63):Zwk r.id.core r.id.op r.id.part r.call.kind r.call.slot r.call.dest r.call.core r.call.mask r.call.object r.call.bits r.call.level r.call.offset r.call.count r.call.index r.call.addr r.region r.width r.src.id.core r.src.id.op r.src.id.part (Zb r.src.path) r.src.cap.kind r.src.cap.base r.src.cap.bits r.src.cap.rights r.src.cap.width r.src.cap.level r.src.cap.device=some (KK r):=by
 rw [Zrk]
 simp only [Zw0,ZwU,ZrS _ hr,ZtE _ hr,Option.bind_some]
 repeat' split
 all_goals (refine congrArg some ?_; rw [Zh]; simp only [KK,CQ] at *; grind)
theorem s97 (r:Req) (hr:r.src.path.length < 2 ^ 63):g97 r.id.core r.id.op r.id.part r.call.kind r.call.slot r.call.dest r.call.core r.call.mask r.call.object r.call.bits r.call.level r.call.offset r.call.count r.call.index r.call.addr r.region r.width r.src.id.core r.src.id.op r.src.id.part (Zb r.src.path) r.src.cap.kind r.src.cap.base r.src.cap.bits r.src.cap.rights r.src.cap.width r.src.cap.level r.src.cap.device=some (KK r):=by
 rw [Zv7]
 simp only [s98,Zv2,ZAe _ hr,s93 _ hr,Option.bind_some]
 repeat' split
 all_goals (refine congrArg some ?_; rw [Zh]; simp only [KK,CQ] at *; grind)
end Go.Proofs.YthdihcchfjlgkaaGreat
end

section
namespace Go.Proofs.YthdihcchfjlgkaaGreat
open Go Go.AM
set_option linter.unusedSimpArgs false
set_option linter.unusedVariables false
set_option maxRecDepth 100000
theorem Zfu {γ:Type} {F:Nat→Int→Option γ} {n:Nat} {miss:γ} (hit:Nat→γ) (p:Nat→Bool) (hn:n < 2 ^ 63)
  (step:∀ k i:Nat,i < n→F (k+1) (i:Int)=if p i=true then some (hit i) else F k ((i+1:Nat):Int))
  (last:∀ k i:Nat,n≤i→F (k+1) (i:Int)=some miss) :
  (∃ i,i < n∧p i=true∧(∀ j,j < i→p j=false)∧F Zw 0=some (hit i))∨((∀ j,j < n→p j=false)∧F Zw 0=some miss):=by
 have key:∀ (j i fuel:Nat),n≤i+j→j < fuel→(∃ m,i≤m∧m < n∧p m=true∧(∀ j,i≤j→j < m→p j=false)∧F fuel (i:Int)=some (hit m))∨((∀ j,i≤j→j < n→p j=false)∧F fuel (i:Int)=some miss):=by
  intro j
  induction j with
  | zero =>
   intro i fuel h hf
   obtain ⟨f,rfl⟩:∃ f,fuel=f+1:=⟨fuel - 1,by omega⟩
   exact .inr ⟨fun j h1 h2=>by omega,last f i (by omega)⟩
  | succ j ih =>
   intro i fuel h hf
   obtain ⟨f,rfl⟩:∃ f,fuel=f+1:=⟨fuel - 1,by omega⟩
   by_cases hi:i < n
   ·rw [step f i hi]
    cases hp:p i with
    | true => exact .inl ⟨i, Nat.le_refl _, hi, hp, fun j h1 h2 => by omega, if_pos rfl⟩
    | false =>
     rw [if_neg Bool.false_ne_true]
     rcases ih (i+1) f (by omega) (by omega) with ⟨m,h1,h2,h3,h4,h5⟩ | ⟨h1,h2⟩
     ·refine .inl ⟨m,by omega,h2,h3,fun j h6 h7=>?_,h5⟩
      by_cases he:j=i
      ·rw [he]; exact hp
      ·exact h4 j (by omega) h7
     ·refine .inr ⟨fun j h6 h7=>?_,h2⟩
      by_cases he:j=i
      ·rw [he]; exact hp
      ·exact h1 j (by omega) h7
   ·exact .inr ⟨fun j h1 h2=>by omega,last f i (by omega)⟩
 rcases key n 0 Zw (by omega) (by have:=JA hn; omega) with ⟨m,_,h2,h3,h4,h5⟩ | ⟨h1,h2⟩
 ·exact .inl ⟨m,h2,h3,fun j hj=>h4 j (by omega) hj,h5⟩
 ·exact .inr ⟨fun j hj=>h1 j (by omega) hj,h2⟩
def zid:Id:=⟨0,0,0⟩
def ZbO (i:Id) (t:Jh):Bool:=!decide (t.node.id=zid)&&decide (t.node.id=i)
def ZdC (s:Jh):Bool:=decide (0≤s.op∧s.op≤1073741824)&&(if s.node.id=zid then KJ s.node ZU&&decide (s.lock=zid) else ZK s.node&&(decide (s.lock=zid)||ZbX s.lock))
def KR (l:List Jh) (i:Nat):Bool:=match l[i]? with | some s=>!((l.take i).any (ZbO s.node.id)) | none=>true
def Vs (l:List Jh):Bool:=decide (l.length≤64)&&(List.range' 0 l.length).all (fun i=>atB ZdC l i&&KR l i)
theorem YS (a b c:Int):((cop .eql a 0&&(cop .eql b 0&&(cop .eql c 0&&true)))=true)↔((⟨a,b,c⟩:Id)=zid):=JO a b c 0 0 0
theorem ZAQ (s:Jh) (hs:s.node.path.length < 2 ^ 63):Zxh s.node.id.core s.node.id.op s.node.id.part (Zb s.node.path) s.node.cap.kind s.node.cap.base s.node.cap.bits s.node.cap.rights s.node.cap.width s.node.cap.level s.node.cap.device s.op s.lock.core s.lock.op s.lock.part=some (ZdC s):=by
 rw [ZrW]
 simp only [Zh7,ZrS _ hs,ZtE _ hs,Zu5,Option.bind_some,YS,Kd]
 have e:cop .eql s.lock.part 0=decide (s.lock.part=0):=rfl
 have e2:((cop .eql s.lock.core 0)&&((cop .eql s.lock.op 0)&&((cop .eql s.lock.part 0)&&true)))=decide (s.lock=zid):=by
  rw [Zh,YS,Kd,decide_eq_true_eq]
 simp only [e2]
 repeat' split
 all_goals (refine congrArg some ?_; rw [Zh]; simp only [ZdC,ZbX,CQ] at *; grind)
theorem Zoa {α:Type} (q:α→Bool) (l:List α) (i:Nat) (hi:i≤l.length):(l.take i).any q=true↔∃ j,∃ (h:j < l.length),j < i∧q l[j]=true:=by
 rw [List.any_eq_true]
 constructor
 ·rintro ⟨x,hx,hq⟩
  obtain ⟨j,hj,rfl⟩:=List.getElem_of_mem hx
  rw [List.length_take] at hj
  rw [List.getElem_take] at hq
  exact ⟨j,by omega,by omega,hq⟩
 ·rintro ⟨j,h1,h2,hq⟩
  refine ⟨l[j],?_,hq⟩
  rw [List.mem_iff_getElem]
  exact ⟨j,by rw [List.length_take]; omega,by rw [List.getElem_take]⟩
theorem Yn (l:List Jh):(l.map Zf).length=l.length:=List.length_map _
theorem Zz9 (l:List Jh) (hl:l.length < 2 ^ 63) (a b c:Int):∃ r,ZwN (l.map Zf) a b c=some (r,l.any (ZbO ⟨a,b,c⟩)):=by
 rw [Zsd,Yn]
 have:=Zfu (F:=fun k i=>ZcF k a b c (l.map Zf) (l.length:Int) i) (n:=l.length) (miss:=((0:Int),false)) (fun i=>((i:Int),true)) (atB (ZbO ⟨a,b,c⟩) l) hl
  (fun k i hi=>by
   show ZcF (k+1) _ _ _ _ _ _=_
   rw [Zgm,if_pos (Z2 hi)]
   refine (ZW hi _).trans ?_
   simp only [KV,d2,d4,d8,d16]
   rw [Zh7,Option.bind_some,ZR hi hl,Je _ hi]
   generalize l[i]=t
   simp only [YS,JO,Kd,Bool.not_eq_true']
   unfold ZbO
   by_cases h1:t.node.id=zid
   ·rw [if_neg (by simp only [Bool.not_eq_false]; rw [YS]; exact h1),if_neg (by simp [h1])]
   ·rw [if_pos (by rw [← Bool.not_eq_true,YS]; exact h1)]
    by_cases h2:t.node.id=⟨a,b,c⟩
    ·rw [if_pos (by exact h2),if_pos (by simp [h1,h2]; exact fun h=>h1 (h2.trans h))]
    ·rw [if_neg (by exact h2),if_neg (by simp [h1,h2])])
  (fun k i hi=>by show ZcF (k+1) _ _ _ _ _ _=_; rw [Zgm,if_neg (ZZ hi)])
 rcases this with ⟨i,h1,h2,h3,h4⟩ | ⟨h1,h2⟩
 ·refine ⟨i,?_⟩
  have e:l.any (ZbO ⟨a,b,c⟩)=true:=by
   rw [Je _ h1] at h2
   exact List.any_eq_true.2 ⟨l[i],List.getElem_mem h1,h2⟩
  rw [e]; exact h4
 ·refine ⟨0,?_⟩
  have e:l.any (ZbO ⟨a,b,c⟩)=false:=by
   rw [List.any_eq_false]
   intro x hx
   obtain ⟨j,hj,rfl⟩:=List.getElem_of_mem hx
   have:=h1 j hj
   rw [Je _ hj] at this
   rw [this]; exact Bool.false_ne_true
  rw [e]; exact h2
theorem ZA1 (l:List Jh) (hl:l.length < 2 ^ 63) (hp:∀ s∈l,s.node.path.length < 2 ^ 63):ZyO (l.map Zf)=some (Vs l):=by
 rw [ZrY,Yn]
 unfold Vs
 refine Zo (fun h=>?_) fun h=>?_
 ·rw [decide_eq_false (by simp only [CQ] at h; omega),Bool.false_and]
 ·rw [decide_eq_true (by simp only [CQ] at h; omega),Bool.true_and]
  have:=ZO (F:=fun k i=>Zej k (l.map Zf) (l.map Zf) (l.length:Int) i) (n:=l.length) (fin:=some true) (bad:=some false) (fun i=>atB ZdC l i&&KR l i) hl 0 (by omega)
   (fun k i _ hi=>by
    show Zej (k+1) _ _ _ _=_
    rw [Zhl,if_pos (Z2 hi)]
    refine (ZW hi _).trans ?_
    simp only [KV,d2,d4,d8,d16]
    obtain ⟨r,hr⟩:=Zz9 (l.take i) (by rw [List.length_take]; omega) l[i].node.id.core l[i].node.id.op l[i].node.id.part
    have hu:KR l i = !((l.take i).any (ZbO l[i].node.id)):=by unfold KR; rw [List.getElem?_eq_getElem hi]
    rw [ZAQ _ (hp _ (List.getElem_mem hi)),Option.bind_some,Zn (by omega),Zn (by rw [Yn]; omega),Int.toNat_natCast,← List.map_take,hr,Option.bind_some,ZR hi hl,Je _ hi,hu,Kd]
    cases ZdC l[i] <;> cases (l.take i).any (ZbO l[i].node.id) <;> rfl)
   (fun k i hi=>by show Zej (k+1) _ _ _ _=_; rw [Zhl,if_neg (ZZ hi)])
  refine this.trans ?_
  rw [Nat.sub_zero]
  cases (List.range' 0 l.length).all (fun i=>atB ZdC l i&&KR l i) <;> rfl
theorem ZAB (l:List Jh) (hl:l.length < 2 ^ 63) (i:Nat) (hi:i < l.length) (hz:¬ l[i].node.id=zid):∃ r,ZsW (l.map Zf) l[i].node.id.core l[i].node.id.op l[i].node.id.part=some r∧(r=(i:Int)↔KR l i=true):=by
 rw [Znm]
 have hself:ZbO l[i].node.id l[i]=true:=by simp [ZbO,hz]
 have hu:KR l i = !((l.take i).any (ZbO l[i].node.id)):=by unfold KR; rw [List.getElem?_eq_getElem hi]
 have:=Zfu (F:=fun k j=>WK k (l.map Zf) l[i].node.id.core l[i].node.id.op l[i].node.id.part j) (n:=l.length) (miss:=(-1:Int)) (fun j=>(j:Int)) (atB (ZbO l[i].node.id) l) hl
  (fun k j hj=>by
   show WK (k+1) _ _ _ _ _=_
   rw [Za3,Yn,if_pos (Z2 hj)]
   refine (ZW hj _).trans ?_
   simp only [KV,d2,d4,d8,d16]
   rw [ZmJ,Option.bind_some,ZR hj hl,Je _ hj]
   generalize l[i].node.id=w
   refine (Zo (x:=if ZbO w l[j]=true then some (j:Int) else _) (fun h=>?_) fun h=>?_)
   ·refine (ZW hj _).trans ?_
    simp only [KV,d2,d4,d8,d16]
    simp only [Bool.not_eq_true'] at h
    rw [← Bool.not_eq_true,YS,Kd] at h
    unfold ZbO
    by_cases h2:l[j].node.id=w
    ·simp only [JO,Kd,h2,if_true]
     rw [if_pos (by simp; exact fun h3=>h (h2.trans h3))]
    ·simp only [JO,Kd,h2,if_false]
     rw [if_neg (by simp)]
   ·simp only [Bool.not_eq_true',Bool.not_eq_false] at h
    rw [YS,Kd] at h
    rw [if_neg (by simp [ZbO,h])])
  (fun k j hj=>by show WK (k+1) _ _ _ _ _=_; rw [Za3,Yn,if_neg (ZZ hj)])
 rcases this with ⟨m,h1,h2,h3,h4⟩ | ⟨h1,_⟩
 ·refine ⟨m,h4,?_⟩
  rw [hu,Bool.not_eq_true',← Bool.not_eq_true,Zoa _ _ _ (by omega)]
  constructor
  ·intro he
   have he':m=i:=by omega
   subst he'
   rintro ⟨j,hj,hji,hq⟩
   have:=h3 j hji
   rw [Je _ hj,hq] at this
   cases this
  ·intro hn
   by_cases hmi:m=i
   ·rw [hmi]
   ·exfalso
    by_cases hlt:m < i
    ·rw [Je _ h1] at h2
     exact hn ⟨m,h1,hlt,h2⟩
    ·have:=h3 i (by omega)
     rw [Je _ hi,hself] at this
     cases this
 ·have:=h1 i hi
  rw [Je _ hi,hself] at this
  cases this
theorem ZBc (l:List Jh) (hl:l.length < 2 ^ 63) (hp:∀ s∈l,s.node.path.length < 2 ^ 63):Zxn (l.map Zf)=some (Vs l):=by
 rw [Zqv,Yn]
 unfold Vs
 refine Zo (fun h=>?_) fun h=>?_
 ·rw [decide_eq_false (by simp only [CQ] at h; omega),Bool.false_and]
 ·rw [decide_eq_true (by simp only [CQ] at h; omega),Bool.true_and]
  have:=ZO (F:=fun k i=>WS k (l.map Zf) i) (n:=l.length) (fin:=some true) (bad:=some false) (fun i=>atB ZdC l i&&KR l i) hl 0 (by omega)
   (fun k i _ hi=>by
    show WS (k+1) _ _=_
    rw [Zg6,Yn,if_pos (Z2 hi)]
    refine (ZW hi _).trans ?_
    simp only [KV,d2,d4,d8,d16]
    have hps:=hp _ (List.getElem_mem hi)
    have hu:l[i].node.id=zid→KR l i=true:=by
     intro hz
     unfold KR
     rw [List.getElem?_eq_getElem hi]
     simp only [Bool.not_eq_true',List.any_eq_false]
     intro t _
     rw [hz]
     simp [ZbO]
    have h128:=ZAB l hl i hi
    rw [Je _ hi,ZR hi hl]
    generalize WS k (l.map Zf) ((i+1:Nat):Int)=X
    generalize huq:KR l i=uq at *
    generalize hli:l[i]=t at *
    simp only [ZmJ,s94,ZAe _ hps,s93 _ hps,Option.bind_some,YS,Kd]
    have e2:((cop .eql t.lock.core 0)&&((cop .eql t.lock.op 0)&&((cop .eql t.lock.part 0)&&true)))=decide (t.lock=zid):=by
     rw [Zh,YS,Kd,decide_eq_true_eq]
    simp only [e2]
    by_cases hz:t.node.id=zid
    ·have:=hu hz
     subst this
     simp only [hz,if_true]
     repeat' split
     all_goals (simp only [ZdC,ZbX,hz,if_true,CQ] at * <;> grind)
    ·obtain ⟨r,hr,hru⟩:=h128 hz
     simp only [hz,if_false,hr,Option.bind_some]
     repeat' split
     all_goals (simp only [ZdC,ZbX,hz,if_false,CQ] at * <;> grind))
   (fun k i hi=>by show WS (k+1) _ _=_; rw [Zg6,Yn,if_neg (ZZ hi)])
  refine this.trans ?_
  rw [Nat.sub_zero]
  cases (List.range' 0 l.length).all (fun i=>atB ZdC l i&&KR l i) <;> rfl
end Go.Proofs.YthdihcchfjlgkaaGreat
end

section
namespace Go.Proofs.YthdihcchfjlgkaaGreat
open Go Go.AM
set_option linter.unusedSimpArgs false
set_option linter.unusedVariables false
set_option maxRecDepth 100000
theorem ZdQ {j:Nat} (h:j+1 < 2 ^ 63):iop .sub .i64 ((j+1:Nat):Int) 1=(j:Int):=by
 rw [ZkY (by omega) (by omega)]; omega
theorem Zmi (j:Nat):cop .gtr ((j+1:Nat):Int) 0=true:=by simp only [CQ]; omega
theorem ZmN:cop .gtr ((0:Nat):Int) 0=false:=rfl
def ZsJ (a b:Id):Bool:=ZsI a.core a.op a.part b.core b.op b.part
theorem s25 (a b c d e f:Int):g25 a b c d e f=some (ZsI a b c d e f):=by
 rw [ZtW]
 repeat' split
 all_goals (refine congrArg some ?_; rw [Zh]; simp only [ZsI,CQ] at *; omega)
def Y1 (m:ZdR):Bool:=Z5 m.region&&ZbX m.op
def VL (a:Ans):Bool:=decide (1≤a.op∧a.op≤1073741824)&&Zc6 a.err
def VQ (e:ZJ):Bool:=Zs e.core&&Jw e.slot&&ZK e.node
def ltp:Req→Req→Bool:=fun a b=>ZsJ a.id b.id
theorem ZA4 (x:Req) (hx:x.src.path.length < 2 ^ 63):Zzo x.id.core x.id.op x.id.part x.call.kind x.call.slot x.call.dest x.call.core x.call.mask x.call.object x.call.bits x.call.level x.call.offset x.call.count x.call.index x.call.addr x.region x.width x.src.id.core x.src.id.op x.src.id.part (Zb x.src.path) x.src.cap.kind x.src.cap.base x.src.cap.bits x.src.cap.rights x.src.cap.width x.src.cap.level x.src.cap.device=some (!KK x):=by
 rw [Zqw,ZzY x hx,Option.bind_some]
theorem Zrv (l:List Req) (hl:l.length < 2 ^ 63) (hp:∀ x∈l,x.src.path.length < 2 ^ 63):∃ r,ZiN (l.map Zt)=some r∧cop .geq r 0 = !(l.all KK):=by
 rw [Zky,List.length_map]
 have:=YD (F:=fun k i=>KZ k (l.map Zt) (l.length:Int) i) (n:=l.length) (fun i=>!atB KK l i) hl
  (fun k i hi=>by
   show KZ (k+1) _ _ _=_
   rw [ZbL,if_pos (Z2 hi)]
   refine (Jc hi _).trans ?_
   simp only [Zje,d2,d4,d8,d16]
   rw [ZA4 l[i] (hp _ (List.getElem_mem hi)),Option.bind_some,ZR hi hl,Je _ hi])
  (fun k i hi=>by show KZ (k+1) _ _ _=_; rw [ZbL,if_neg (ZZ hi)])
 rw [Wa] at this
 exact this
theorem Zn1 (l:List Req) (hl:l.length < 2 ^ 63) (hp:∀ x∈l,x.src.path.length < 2 ^ 63):ZfM (l.map Zt)=some (!(l.all KK)):=by
 obtain ⟨r,h1,h2⟩:=Zrv l hl hp
 rw [ZiX,h1,Option.bind_some,h2]
theorem ZBI (l:List Req) {j:Nat} (hj:j+1 < l.length):Zzt (j:Int) ((j+1:Nat):Int) (l.map Zt)=some (ltp l[j] l[j+1],l.map Zt):=by
 rw [Zrt]
 refine (Jc (show j < l.length by omega) _).trans ?_
 refine (Jc hj _).trans ?_
 simp only [Zje,d2,d4,d8,d16]
 rw [s39,Option.bind_some]; rfl
theorem ZoG (l:List Req) (hl:l.length < 2 ^ 63):ZfX (l.length:Int) (l.map Zt)=some (KC ltp l,l.map Zt):=by
 rw [Zir]
 have:=ZO (F:=fun k i=>Kk k (l.length:Int) i (l.map Zt)) (n:=l.length) (fin:=some (true,l.map Zt)) (bad:=some (false,l.map Zt)) (Vn ltp l) hl 1 (by omega)
  (fun k i h1 hi=>by
   obtain ⟨j,rfl⟩:∃ j,i=j+1:=⟨i - 1,by omega⟩
   show Kk (k+1) _ _ _=_
   rw [Za1,if_pos (Z2 hi),ZdQ (by omega),ZBI l hi,Option.bind_some,ZR hi hl,Kc _ hi]
   cases ltp l[j] l[j+1] <;> rfl)
  (fun k i hi=>by show Kk (k+1) _ _ _=_; rw [Za1,if_neg (ZZ hi)])
 rw [Zs4] at this
 refine Eq.trans this ?_
 cases KC ltp l <;> rfl
theorem ZBR (l:List Req) (hl:l.length < 2 ^ 63) (hp:∀ x∈l,x.src.path.length < 2 ^ 63):Zxb (l.map Zt)=some (l.all KK&&KC ltp l):=by
 rw [Zqq,Zn1 l hl hp,Option.bind_some,List.length_map,ZoG l hl,Option.bind_some]
 cases l.all KK <;> rfl
def ltm:ZdR→ZdR→Bool:=fun a b=>decide (a.region < b.region)
theorem ZBa (x:ZdR):ZyN x.region x.op.core x.op.op x.op.part=some (!Y1 x):=by
 rw [Zqu]
 simp only [ZwU,Zw0,Option.bind_some]
 repeat' split
 all_goals (refine congrArg some ?_; rw [Zh]; simp only [Y1,CQ] at * <;> grind)
theorem ZnW (l:List ZdR) (hl:l.length < 2 ^ 63):∃ r,Zfq (l.map Zj)=some r∧cop .geq r 0 = !(l.all Y1):=by
 rw [Zin,List.length_map]
 have:=YD (F:=fun k i=>Km k (l.map Zj) (l.length:Int) i) (n:=l.length) (fun i=>!atB Y1 l i) hl
  (fun k i hi=>by
   show Km (k+1) _ _ _=_
   rw [Zar,if_pos (Z2 hi)]
   refine (J6 hi _).trans ?_
   simp only [d2,d4,d8,d16]
   rw [ZBa l[i],Option.bind_some,ZR hi hl,Je _ hi])
  (fun k i hi=>by show Km (k+1) _ _ _=_; rw [Zar,if_neg (ZZ hi)])
 rw [Wa] at this
 exact this
theorem Zpb (l:List ZdR) (hl:l.length < 2 ^ 63):ZeW (l.map Zj)=some (!(l.all Y1)):=by
 obtain ⟨r,h1,h2⟩:=ZnW l hl
 rw [ZiJ,h1,Option.bind_some,h2]
theorem ZBp (l:List ZdR) {j:Nat} (hj:j+1 < l.length):ZxD (j:Int) ((j+1:Nat):Int) (l.map Zj)=some (ltm l[j] l[j+1],l.map Zj):=by
 rw [Zp8]
 refine (J6 (show j < l.length by omega) _).trans ?_
 refine (J6 hj _).trans ?_
 simp only [d2,d4,d8,d16]
 rfl
theorem Zoy (l:List ZdR) (hl:l.length < 2 ^ 63):ZeT (l.length:Int) (l.map Zj)=some (KC ltm l,l.map Zj):=by
 rw [ZhV]
 have:=ZO (F:=fun k i=>Kz k (l.length:Int) i (l.map Zj)) (n:=l.length) (fin:=some (true,l.map Zj)) (bad:=some (false,l.map Zj)) (Vn ltm l) hl 1 (by omega)
  (fun k i h1 hi=>by
   obtain ⟨j,rfl⟩:∃ j,i=j+1:=⟨i - 1,by omega⟩
   show Kz (k+1) _ _ _=_
   rw [ZaK,if_pos (Z2 hi),ZdQ (by omega),ZBp l hi,Option.bind_some,ZR hi hl,Kc _ hi]
   cases ltm l[j] l[j+1] <;> rfl)
  (fun k i hi=>by show Kz (k+1) _ _ _=_; rw [ZaK,if_neg (ZZ hi)])
 rw [Zs4] at this
 refine Eq.trans this ?_
 cases KC ltm l <;> rfl
theorem ZAt (l:List ZdR) (hl:l.length < 2 ^ 63):ZyT (l.map Zj)=some (l.all Y1&&KC ltm l):=by
 rw [Zso,Zpb l hl,Option.bind_some,List.length_map,Zoy l hl,Option.bind_some]
 cases l.all Y1 <;> rfl
def lta:Ans→Ans→Bool:=fun a b=>decide (a.op < b.op)
theorem ZBE (x:Ans):Zx8 x.op x.err=some (!VL x):=by
 rw [Zra]
 simp only [ZzS,Option.bind_some]
 repeat' split
 all_goals (refine congrArg some ?_; rw [Zh]; simp only [VL,CQ] at * <;> grind)
theorem Zo3 (l:List Ans) (hl:l.length < 2 ^ 63):∃ r,Zfx (l.map ZF)=some r∧cop .geq r 0 = !(l.all VL):=by
 rw [Zh8,List.length_map]
 have:=YD (F:=fun k i=>Kn k (l.map ZF) (l.length:Int) i) (n:=l.length) (fun i=>!atB VL l i) hl
  (fun k i hi=>by
   show Kn (k+1) _ _ _=_
   rw [ZaO,if_pos (Z2 hi)]
   refine (Yl hi _).trans ?_
   simp only [d2,d4,d8,d16]
   rw [ZBE l[i],Option.bind_some,ZR hi hl,Je _ hi])
  (fun k i hi=>by show Kn (k+1) _ _ _=_; rw [ZaO,if_neg (ZZ hi)])
 rw [Wa] at this
 exact this
theorem ZoD (l:List Ans) (hl:l.length < 2 ^ 63):ZfQ (l.map ZF)=some (!(l.all VL)):=by
 obtain ⟨r,h1,h2⟩:=Zo3 l hl
 rw [ZhX,h1,Option.bind_some,h2]
theorem ZBV (l:List Ans) {j:Nat} (hj:j+1 < l.length):Zxq (j:Int) ((j+1:Nat):Int) (l.map ZF)=some (lta l[j] l[j+1],l.map ZF):=by
 rw [Zqe]
 refine (Yl (show j < l.length by omega) _).trans ?_
 refine (Yl hj _).trans ?_
 simp only [d2,d4,d8,d16]
 rfl
theorem ZnG (l:List Ans) (hl:l.length < 2 ^ 63):ZfP (l.length:Int) (l.map ZF)=some (KC lta l,l.map ZF):=by
 rw [ZiO]
 have:=ZO (F:=fun k i=>Kl k (l.length:Int) i (l.map ZF)) (n:=l.length) (fin:=some (true,l.map ZF)) (bad:=some (false,l.map ZF)) (Vn lta l) hl 1 (by omega)
  (fun k i h1 hi=>by
   obtain ⟨j,rfl⟩:∃ j,i=j+1:=⟨i - 1,by omega⟩
   show Kl (k+1) _ _ _=_
   rw [Zaq,if_pos (Z2 hi),ZdQ (by omega),ZBV l hi,Option.bind_some,ZR hi hl,Kc _ hi]
   cases lta l[j] l[j+1] <;> rfl)
  (fun k i hi=>by show Kl (k+1) _ _ _=_; rw [Zaq,if_neg (ZZ hi)])
 rw [Zs4] at this
 refine Eq.trans this ?_
 cases KC lta l <;> rfl
theorem ZBw (l:List Ans) (hl:l.length < 2 ^ 63):ZxW (l.map ZF)=some (l.all VL&&KC lta l):=by
 rw [Zrm,ZoD l hl,Option.bind_some,List.length_map,ZnG l hl,Option.bind_some]
 cases l.all VL <;> rfl
def lte:ZJ→ZJ→Bool:=fun a b=>ZsJ a.node.id b.node.id
theorem ZA0 (x:ZJ) (hx:x.node.path.length < 2 ^ 63):ZyF x.core x.slot x.node.id.core x.node.id.op x.node.id.part (Zb x.node.path) x.node.cap.kind x.node.cap.base x.node.cap.bits x.node.cap.rights x.node.cap.width x.node.cap.level x.node.cap.device=some (!VQ x):=by
 rw [ZrT]
 simp only [s77,ZzV,ZtE _ hx,Option.bind_some]
 repeat' split
 all_goals (refine congrArg some ?_; rw [Zh]; simp only [VQ,CQ] at * <;> grind)
theorem ZnO (l:List ZJ) (hl:l.length < 2 ^ 63) (hp:∀ x∈l,x.node.path.length < 2 ^ 63):∃ r,Zfl (l.map Zd)=some r∧cop .geq r 0 = !(l.all VQ):=by
 rw [ZiF,List.length_map]
 have:=YD (F:=fun k i=>Ky k (l.map Zd) (l.length:Int) i) (n:=l.length) (fun i=>!atB VQ l i) hl
  (fun k i hi=>by
   show Ky (k+1) _ _ _=_
   rw [Za5,if_pos (Z2 hi)]
   refine (Zu hi _).trans ?_
   simp only [Yf,d2,d4,d8,d16]
   rw [ZA0 l[i] (hp _ (List.getElem_mem hi)),Option.bind_some,ZR hi hl,Je _ hi])
  (fun k i hi=>by show Ky (k+1) _ _ _=_; rw [Za5,if_neg (ZZ hi)])
 rw [Wa] at this
 exact this
theorem Zpj (l:List ZJ) (hl:l.length < 2 ^ 63) (hp:∀ x∈l,x.node.path.length < 2 ^ 63):ZfE (l.map Zd)=some (!(l.all VQ)):=by
 obtain ⟨r,h1,h2⟩:=ZnO l hl hp
 rw [ZiC,h1,Option.bind_some,h2]
theorem ZBh (l:List ZJ) {j:Nat} (hj:j+1 < l.length):ZxZ (j:Int) ((j+1:Nat):Int) (l.map Zd)=some (lte l[j] l[j+1],l.map Zd):=by
 rw [ZrN]
 refine (Zu (show j < l.length by omega) _).trans ?_
 refine (Zu hj _).trans ?_
 simp only [Yf,d2,d4,d8,d16]
 rw [s39,Option.bind_some]; rfl
theorem ZoW (l:List ZJ) (hl:l.length < 2 ^ 63):Ze9 (l.length:Int) (l.map Zd)=some (KC lte l,l.map Zd):=by
 rw [Ziq]
 have:=ZO (F:=fun k i=>Kv k (l.length:Int) i (l.map Zd)) (n:=l.length) (fin:=some (true,l.map Zd)) (bad:=some (false,l.map Zd)) (Vn lte l) hl 1 (by omega)
  (fun k i h1 hi=>by
   obtain ⟨j,rfl⟩:∃ j,i=j+1:=⟨i - 1,by omega⟩
   show Kv (k+1) _ _ _=_
   rw [Zak,if_pos (Z2 hi),ZdQ (by omega),ZBh l hi,Option.bind_some,ZR hi hl,Kc _ hi]
   cases lte l[j] l[j+1] <;> rfl)
  (fun k i hi=>by show Kv (k+1) _ _ _=_; rw [Zak,if_neg (ZZ hi)])
 rw [Zs4] at this
 refine Eq.trans this ?_
 cases KC lte l <;> rfl
theorem ZBU (l:List ZJ) (hl:l.length < 2 ^ 63) (hp:∀ x∈l,x.node.path.length < 2 ^ 63):ZyI (l.map Zd)=some (l.all VQ&&KC lte l):=by
 rw [ZrF,Zpj l hl hp,Option.bind_some,List.length_map,ZoW l hl,Option.bind_some]
 cases l.all VQ <;> rfl
theorem ZBm (x:Id):ZyP x.core x.op x.part=some (!ZbX x):=by
 rw [Zr6,Zw0,Option.bind_some]
theorem ZnZ (l:List Id) (hl:l.length < 2 ^ 63):∃ r,ZfF (Zb l)=some r∧cop .geq r 0 = !(l.all ZbX):=by
 rw [Zip,Z1]
 have:=YD (F:=fun k i=>Kx k (Zb l) (l.length:Int) i) (n:=l.length) (fun i=>!atB ZbX l i) hl
  (fun k i hi=>by
   show Kx (k+1) _ _ _=_
   rw [Zbf,if_pos (Z2 hi)]
   refine (Wf hi _).trans ?_
   dsimp only
   rw [ZBm l[i],Option.bind_some,ZR hi hl,Je _ hi])
  (fun k i hi=>by show Kx (k+1) _ _ _=_; rw [Zbf,if_neg (ZZ hi)])
 rw [Wa] at this
 exact this
theorem Zoj (l:List Id) (hl:l.length < 2 ^ 63):ZeZ (Zb l)=some (!(l.all ZbX)):=by
 obtain ⟨r,h1,h2⟩:=ZnZ l hl
 rw [ZiQ,h1,Option.bind_some,h2]
def Zix (ops:Bool) (i:Id):Bool:=WM i&&(!ops||decide (i.part=0))
theorem Zz7 (l:List Id) (ops:Bool) (hl:l.length < 2 ^ 63):ZwQ (Zb l) ops=some (l.all (Zix ops)):=by
 rw [Zry]
 have:=ZO (F:=fun k i=>ZbT k (Zb l) ops i) (n:=l.length) (fin:=some true) (bad:=some false) (atB (Zix ops) l) hl 0 (by omega)
  (fun k i _ hi=>by
   show ZbT (k+1) _ _ _=_
   rw [Zf3,Z1,if_pos (Z2 hi)]
   refine (Wf hi _).trans ?_
   dsimp only
   rw [s94,Option.bind_some,ZR hi hl,Je _ hi,Kd]
   generalize ZbT k (Zb l) ops ((i+1:Nat):Int)=X
   have e:∀ k:(Int×Int×Int)→Option Bool,Zl (Zb l) (i:Int) [.int .i64,.int .i64,.int .i64] k=k (l[i].core,l[i].op,l[i].part):=fun k=>Wf hi k
   simp only [e]
   generalize l[i]=t
   unfold Zix
   repeat' split
   all_goals (simp only [CQ] at * <;> grind))
  (fun k i hi=>by show ZbT (k+1) _ _ _=_; rw [Zf3,Z1,if_neg (ZZ hi)])
 rw [Nat.sub_zero,Zec] at this
 refine Eq.trans this ?_
 cases l.all (Zix ops) <;> rfl
theorem Zvs (l:List ZJ) (hl:l.length < 2 ^ 63) (hp:∀ x∈l,x.node.path.length < 2 ^ 63) (x0 x1 x2 x3 x5:List (List AV)):V8 Zw x0 x1 x2 x3 (l.map Zd) x5 0=if (l.all VQ&&KC lte l)=true then some true else some false:=by
 have:=ZO (F:=fun k i=>V8 k x0 x1 x2 x3 (l.map Zd) x5 i) (n:=l.length) (fin:=some true) (bad:=some false) (fun i=>atB VQ l i&&Vn lte l i) hl 0 (by omega)
  (fun k i _ hi=>by
   show V8 (k+1) x0 x1 x2 x3 (l.map Zd) x5 _=_
   rw [Zf7,List.length_map,if_pos (Z2 hi)]
   refine (Zu hi _).trans ?_
   rw [ZR hi hl,Je _ hi]
   generalize V8 k x0 x1 x2 x3 (l.map Zd) x5 ((i+1:Nat):Int)=X
   cases i with
   | zero =>
    simp only [Yf,d2,d4,d8,d16,s96,s93 _ (hp _ (List.getElem_mem hi)),s25,Option.bind_some,ZmN,Bool.false_eq_true,if_false,Vn,Bool.and_true]
    generalize l[0]=t
    repeat' split
    all_goals (simp only [VQ,Z5,Jw,CQ] at * <;> grind)
   | succ j =>
    simp only [Yf,d2,d4,d8,d16,s96,s93 _ (hp _ (List.getElem_mem hi)),s25,Option.bind_some,Zmi,if_true,ZdQ (show j+1 < 2 ^ 63 by omega),Zu (show j < l.length by omega),Zu hi,Kc _ hi]
    generalize l[j+1]=t
    generalize l[j]=u
    unfold lte ZsJ
    repeat' split
    all_goals (simp only [VQ,Z5,Jw,CQ] at * <;> grind))
  (fun k i hi=>by show V8 (k+1) x0 x1 x2 x3 (l.map Zd) x5 _=_; rw [Zf7,List.length_map,if_neg (ZZ hi)])
 rw [Nat.sub_zero,ZcK] at this
 exact this
theorem Zt1 (l:List Ans) (hl:l.length < 2 ^ 63) (x0 x1 x2 x4 x5:List (List AV)):We Zw x0 x1 x2 (l.map ZF) x4 x5 0=if (l.all VL&&KC lta l)=true then V8 Zw x0 x1 x2 (l.map ZF) x4 x5 0 else some false:=by
 have:=ZO (F:=fun k i=>We k x0 x1 x2 (l.map ZF) x4 x5 i) (n:=l.length) (fin:=V8 Zw x0 x1 x2 (l.map ZF) x4 x5 0) (bad:=some false) (fun i=>atB VL l i&&Vn lta l i) hl 0 (by omega)
  (fun k i _ hi=>by
   show We (k+1) x0 x1 x2 (l.map ZF) x4 x5 _=_
   rw [Zga,List.length_map,if_pos (Z2 hi)]
   refine (Yl hi _).trans ?_
   rw [ZR hi hl,Je _ hi]
   generalize We k x0 x1 x2 (l.map ZF) x4 x5 ((i+1:Nat):Int)=X
   cases i with
   | zero =>
    simp only [d2,d4,d8,d16,s99,Option.bind_some,ZmN,Bool.false_eq_true,if_false,Vn,Bool.and_true]
    generalize l[0]=t
    repeat' split
    all_goals (simp only [VL,Z5,Jw,CQ] at * <;> grind)
   | succ j =>
    simp only [d2,d4,d8,d16,s99,Option.bind_some,Zmi,if_true,ZdQ (show j+1 < 2 ^ 63 by omega),Yl (show j < l.length by omega),Yl hi,Kc _ hi]
    generalize l[j+1]=t
    generalize l[j]=u
    unfold lta
    repeat' split
    all_goals (simp only [VL,Z5,Jw,CQ] at * <;> grind))
  (fun k i hi=>by show We (k+1) x0 x1 x2 (l.map ZF) x4 x5 _=_; rw [Zga,List.length_map,if_neg (ZZ hi)])
 rw [Nat.sub_zero,ZcK] at this
 exact this
theorem ZuS (l:List ZdR) (hl:l.length < 2 ^ 63) (x0 x1 x3 x4 x5:List (List AV)):VY Zw x0 x1 (l.map Zj) x3 x4 x5 0=if (l.all Y1&&KC ltm l)=true then We Zw x0 x1 (l.map Zj) x3 x4 x5 0 else some false:=by
 have:=ZO (F:=fun k i=>VY k x0 x1 (l.map Zj) x3 x4 x5 i) (n:=l.length) (fin:=We Zw x0 x1 (l.map Zj) x3 x4 x5 0) (bad:=some false) (fun i=>atB Y1 l i&&Vn ltm l i) hl 0 (by omega)
  (fun k i _ hi=>by
   show VY (k+1) x0 x1 (l.map Zj) x3 x4 x5 _=_
   rw [Zhc,List.length_map,if_pos (Z2 hi)]
   refine (J6 hi _).trans ?_
   rw [ZR hi hl,Je _ hi]
   generalize VY k x0 x1 (l.map Zj) x3 x4 x5 ((i+1:Nat):Int)=X
   cases i with
   | zero =>
    simp only [d2,d4,d8,d16,Zv2,s98 l[0].op,Option.bind_some,ZmN,Bool.false_eq_true,if_false,Vn,Bool.and_true]
    generalize l[0]=t
    repeat' split
    all_goals (simp only [Y1,Z5,Jw,CQ] at * <;> grind)
   | succ j =>
    simp only [d2,d4,d8,d16,Zv2,s98 l[j+1].op,Option.bind_some,Zmi,if_true,ZdQ (show j+1 < 2 ^ 63 by omega),J6 (show j < l.length by omega),J6 hi,Kc _ hi]
    generalize l[j+1]=t
    generalize l[j]=u
    unfold ltm
    repeat' split
    all_goals (simp only [Y1,Z5,Jw,CQ] at * <;> grind))
  (fun k i hi=>by show VY (k+1) x0 x1 (l.map Zj) x3 x4 x5 _=_; rw [Zhc,List.length_map,if_neg (ZZ hi)])
 rw [Nat.sub_zero,ZcK] at this
 exact this
theorem Zvk (l:List Req) (hl:l.length < 2 ^ 63) (hp:∀ x∈l,x.src.path.length < 2 ^ 63) (x0 x2 x3 x4 x5:List (List AV)):Za7 Zw x0 (l.map Zt) x2 x3 x4 x5 0=if (l.all KK&&KC ltp l)=true then VY Zw x0 (l.map Zt) x2 x3 x4 x5 0 else some false:=by
 have:=ZO (F:=fun k i=>Za7 k x0 (l.map Zt) x2 x3 x4 x5 i) (n:=l.length) (fin:=VY Zw x0 (l.map Zt) x2 x3 x4 x5 0) (bad:=some false) (fun i=>atB KK l i&&Vn ltp l i) hl 0 (by omega)
  (fun k i _ hi=>by
   show Za7 (k+1) x0 (l.map Zt) x2 x3 x4 x5 _=_
   rw [ZgK,List.length_map,if_pos (Z2 hi)]
   refine (Jc hi _).trans ?_
   rw [ZR hi hl,Je _ hi]
   generalize Za7 k x0 (l.map Zt) x2 x3 x4 x5 ((i+1:Nat):Int)=X
   cases i with
   | zero =>
    simp only [Zje,d2,d4,d8,d16,s97 _ (hp _ (List.getElem_mem hi)),s25,Option.bind_some,ZmN,Bool.false_eq_true,if_false,Vn,Bool.and_true]
    generalize l[0]=t
    repeat' split
    all_goals (simp only [Z5,Jw,CQ] at * <;> grind)
   | succ j =>
    simp only [Zje,d2,d4,d8,d16,s97 _ (hp _ (List.getElem_mem hi)),s25,Option.bind_some,Zmi,if_true,ZdQ (show j+1 < 2 ^ 63 by omega),Jc (show j < l.length by omega),Jc hi,Kc _ hi]
    generalize l[j+1]=t
    generalize l[j]=u
    unfold ltp ZsJ
    repeat' split
    all_goals (simp only [Z5,Jw,CQ] at * <;> grind))
  (fun k i hi=>by show Za7 (k+1) x0 (l.map Zt) x2 x3 x4 x5 _=_; rw [ZgK,List.length_map,if_neg (ZZ hi)])
 rw [Nat.sub_zero,ZcK] at this
 exact this
def YI (s:Kg):Bool:=Vs s.slots&&(s.pending.all KK&&KC ltp s.pending)&&(s.marks.all Y1&&KC ltm s.marks)&&(s.answers.all VL&&KC lta s.answers)&&(s.entries.all VQ&&KC lte s.entries)&&s.commits.all ZbX
structure Kg.Fits (s:Kg):Prop where
 slots:s.slots.length < 2 ^ 63
 pending:s.pending.length < 2 ^ 63
 marks:s.marks.length < 2 ^ 63
 answers:s.answers.length < 2 ^ 63
 entries:s.entries.length < 2 ^ 63
 commits:s.commits.length < 2 ^ 63
 slot:∀ x∈s.slots,x.node.path.length < 2 ^ 63
 req:∀ x∈s.pending,x.src.path.length < 2 ^ 63
 entry:∀ x∈s.entries,x.node.path.length < 2 ^ 63
theorem ZxV (s:Kg) (h:s.Fits):ZvR (s.slots.map Zf) (s.pending.map Zt) (s.marks.map Zj) (s.answers.map ZF) (s.entries.map Zd) (Zb s.commits)=some (YI s):=by
 rw [Zsg,ZA1 _ h.slots h.slot,Option.bind_some,ZBR _ h.pending h.req,Option.bind_some,ZAt _ h.marks,Option.bind_some,ZBw _ h.answers,Option.bind_some,ZBU _ h.entries h.entry,Option.bind_some,Zoj _ h.commits,Option.bind_some]
 unfold YI
 cases Vs s.slots <;> cases (s.pending.all KK&&KC ltp s.pending) <;> cases (s.marks.all Y1&&KC ltm s.marks) <;> cases (s.answers.all VL&&KC lta s.answers) <;> cases (s.entries.all VQ&&KC lte s.entries) <;> cases s.commits.all ZbX <;> rfl
theorem Zyd (s:Kg) (h:s.Fits):Zvh (s.slots.map Zf) (s.pending.map Zt) (s.marks.map Zj) (s.answers.map ZF) (s.entries.map Zd) (Zb s.commits)=some (YI s):=by
 have e:s.commits.all (Zix true)=s.commits.all ZbX:=by congr
 rw [Zsf,ZBc _ h.slots h.slot,Option.bind_some,Zz7 _ _ h.commits,Option.bind_some,Zvk _ h.pending h.req,ZuS _ h.marks,Zt1 _ h.answers,Zvs _ h.entries h.entry,e]
 unfold YI
 cases Vs s.slots <;> cases (s.pending.all KK&&KC ltp s.pending) <;> cases (s.marks.all Y1&&KC ltm s.marks) <;> cases (s.answers.all VL&&KC lta s.answers) <;> cases (s.entries.all VQ&&KC lte s.entries) <;> cases s.commits.all ZbX <;> rfl
end Go.Proofs.YthdihcchfjlgkaaGreat
end

section
namespace Go.Proofs.YthdihcchfjlgkaaGreat
open Go Go.AM
set_option linter.unusedSimpArgs false
set_option linter.unusedVariables false
set_option maxRecDepth 100000
theorem Zre {d:Nat} {cs:List AV} (h:TyR Tryz.prog (d+2) 28 cs):∃ c:Call,cs=Ztc c:=by
 rw [TyR] at h
 simp only [Tryz.underlying28] at h
 obtain ⟨ps,rfl,hl,hp⟩:=h
 obtain ⟨p0,p1,p2,p3,p4,p5,p6,p7,p8,p9,p10,p11,rfl⟩:∃ p0 p1 p2 p3 p4 p5 p6 p7 p8 p9 p10 p11,ps = [p0,p1,p2,p3,p4,p5,p6,p7,p8,p9,p10,p11]:=by
  match ps,hl with
  | [p0, p1, p2, p3, p4, p5, p6, p7, p8, p9, p10, p11], _ => exact ⟨p0, p1, p2, p3, p4, p5, p6, p7, p8, p9, p10, p11, rfl⟩
 obtain ⟨z0,rfl⟩:=ZD (hp 0 _ _ rfl rfl)
 obtain ⟨z1,rfl⟩:=ZD (hp 1 _ _ rfl rfl)
 obtain ⟨z2,rfl⟩:=ZD (hp 2 _ _ rfl rfl)
 obtain ⟨z3,rfl⟩:=ZD (hp 3 _ _ rfl rfl)
 obtain ⟨z4,rfl⟩:=ZD (hp 4 _ _ rfl rfl)
 obtain ⟨z5,rfl⟩:=ZD (hp 5 _ _ rfl rfl)
 obtain ⟨z6,rfl⟩:=ZD (hp 6 _ _ rfl rfl)
 obtain ⟨z7,rfl⟩:=ZD (hp 7 _ _ rfl rfl)
 obtain ⟨z8,rfl⟩:=ZD (hp 8 _ _ rfl rfl)
 obtain ⟨z9,rfl⟩:=ZD (hp 9 _ _ rfl rfl)
 obtain ⟨z10,rfl⟩:=ZD (hp 10 _ _ rfl rfl)
 obtain ⟨z11,rfl⟩:=ZD (hp 11 _ _ rfl rfl)
 exact ⟨⟨z0,z1,z2,z3,z4,z5,z6,z7,z8,z9,z10,z11⟩,rfl⟩
theorem ZpQ {d:Nat} {cs:List AV} (h:TyR Tryz.prog (d+1) 26 cs):∃ z,cs = [I z]:=by
 simp only [TyR,Tryz.underlying26] at h
 obtain ⟨z,h,_⟩:=h
 exact ⟨z,h⟩
theorem Zit {n:Nat} (h:n≤maxLen):n < 2 ^ 63:=by
 have:maxLen+1=2 ^ 63:=by decide
 omega
theorem Zcu {d:Nat} {cs:List AV} (h:TyR Tryz.prog (d+4) 33 cs):∃ n:Yr,cs=ZP n∧n.path.length < 2 ^ 63:=by
 rw [TyR] at h
 simp only [Tryz.underlying33] at h
 obtain ⟨ps,rfl,hl,hp⟩:=h
 obtain ⟨p0,p1,p2,rfl⟩:∃ p0 p1 p2,ps = [p0,p1,p2]:=by
  match ps,hl with
  | [p0, p1, p2], _ => exact ⟨p0, p1, p2, rfl⟩
 obtain ⟨i,rfl⟩:=Zif (hp 0 _ _ rfl rfl)
 obtain ⟨l,rfl,hl2⟩:=ZmI (hp 1 _ _ rfl rfl)
 obtain ⟨k,b,s,r,w,lv,dv,rfl⟩:=ZvV (hp 2 _ _ rfl rfl)
 exact ⟨⟨i,l,⟨k,b,s,r,w,lv,dv⟩⟩,rfl,Zit hl2⟩
theorem ZpF {d:Nat} {cs:List AV} (h:TyR Tryz.prog (d+5) 35 cs):∃ r:Req,cs=Zt r∧r.src.path.length < 2 ^ 63:=by
 rw [TyR] at h
 simp only [Tryz.underlying35] at h
 obtain ⟨ps,rfl,hl,hp⟩:=h
 obtain ⟨p0,p1,p2,p3,p4,rfl⟩:∃ p0 p1 p2 p3 p4,ps = [p0,p1,p2,p3,p4]:=by
  match ps,hl with
  | [p0, p1, p2, p3, p4], _ => exact ⟨p0, p1, p2, p3, p4, rfl⟩
 obtain ⟨i,rfl⟩:=Zif (hp 0 _ _ rfl rfl)
 obtain ⟨c,rfl⟩:=Zre (hp 1 _ _ rfl rfl)
 obtain ⟨a,rfl⟩:=ZD (hp 2 _ _ rfl rfl)
 obtain ⟨b,rfl⟩:=ZD (hp 3 _ _ rfl rfl)
 obtain ⟨n,rfl,hn⟩:=Zcu (hp 4 _ _ rfl rfl)
 exact ⟨⟨i,c,a,b,n⟩,rfl,hn⟩
theorem Zrr {d:Nat} {cs:List AV} (h:TyR Tryz.prog (d+5) 62 cs):∃ s:Jh,cs=Zf s∧s.node.path.length < 2 ^ 63:=by
 rw [TyR] at h
 simp only [Tryz.underlying62] at h
 obtain ⟨ps,rfl,hl,hp⟩:=h
 obtain ⟨p0,p1,p2,rfl⟩:∃ p0 p1 p2,ps = [p0,p1,p2]:=by
  match ps,hl with
  | [p0, p1, p2], _ => exact ⟨p0, p1, p2, rfl⟩
 obtain ⟨n,rfl,hn⟩:=Zcu (hp 0 _ _ rfl rfl)
 obtain ⟨a,rfl⟩:=ZD (hp 1 _ _ rfl rfl)
 obtain ⟨i,rfl⟩:=Zif (hp 2 _ _ rfl rfl)
 exact ⟨⟨n,a,i⟩,rfl,hn⟩
theorem Zpm {d:Nat} {cs:List AV} (h:TyR Tryz.prog (d+5) 85 cs):∃ s:ZJ,cs=Zd s∧s.node.path.length < 2 ^ 63:=by
 rw [TyR] at h
 simp only [Tryz.underlying85] at h
 obtain ⟨ps,rfl,hl,hp⟩:=h
 obtain ⟨p0,p1,p2,rfl⟩:∃ p0 p1 p2,ps = [p0,p1,p2]:=by
  match ps,hl with
  | [p0, p1, p2], _ => exact ⟨p0, p1, p2, rfl⟩
 obtain ⟨a,rfl⟩:=ZD (hp 0 _ _ rfl rfl)
 obtain ⟨b,rfl⟩:=ZD (hp 1 _ _ rfl rfl)
 obtain ⟨n,rfl,hn⟩:=Zcu (hp 2 _ _ rfl rfl)
 exact ⟨⟨a,b,n⟩,rfl,hn⟩
theorem ZrG {d:Nat} {cs:List AV} (h:TyR Tryz.prog (d+5) 88 cs):∃ m:ZdR,cs=Zj m:=by
 rw [TyR] at h
 simp only [Tryz.underlying88] at h
 obtain ⟨ps,rfl,hl,hp⟩:=h
 obtain ⟨p0,p1,rfl⟩:∃ p0 p1,ps = [p0,p1]:=by
  match ps,hl with
  | [p0, p1], _ => exact ⟨p0, p1, rfl⟩
 obtain ⟨a,rfl⟩:=ZD (hp 0 _ _ rfl rfl)
 obtain ⟨i,rfl⟩:=Zif (hp 1 _ _ rfl rfl)
 exact ⟨⟨a,i⟩,rfl⟩
theorem ZuD {d:Nat} {cs:List AV} (h:TyR Tryz.prog (d+5) 74 cs):∃ m:Ans,cs=ZF m:=by
 rw [TyR] at h
 simp only [Tryz.underlying74] at h
 obtain ⟨ps,rfl,hl,hp⟩:=h
 obtain ⟨p0,p1,rfl⟩:∃ p0 p1,ps = [p0,p1]:=by
  match ps,hl with
  | [p0, p1], _ => exact ⟨p0, p1, rfl⟩
 obtain ⟨a,rfl⟩:=ZD (hp 0 _ _ rfl rfl)
 obtain ⟨b,rfl⟩:=ZpQ (hp 1 _ _ rfl rfl)
 exact ⟨⟨a,b⟩,rfl⟩
theorem ZqU:Tryz.prog.cellsOf 62=15:=by kernel_rfl
theorem ZmO:Tryz.prog.cellsOf 35=28:=by kernel_rfl
theorem Zqk:Tryz.prog.cellsOf 88=4:=by kernel_rfl
theorem Zql:Tryz.prog.cellsOf 74=2:=by kernel_rfl
theorem Zqj:Tryz.prog.cellsOf 85=13:=by kernel_rfl
theorem Zj2 {d:Nat} {cs:List AV} (h:TyR Tryz.prog (d+6) 22 cs):∃ l:List Jh,cs = [.slice false 15 (l.map Zf)]∧l.length < 2 ^ 63∧∀ x∈l,x.node.path.length < 2 ^ 63:=by
 rw [TyR] at h
 simp only [Tryz.underlying22,ZqU] at h
 obtain ⟨xs,h1,h2,h3⟩:=h
 obtain ⟨l,rfl,h5⟩:=JL (f:=Zf) (p:=fun x=>x.node.path.length < 2 ^ 63) xs fun y hy=>Zrr (h3 y hy)
 exact ⟨l,h1,Zit (by simpa using h2),h5⟩
theorem Zsq {d:Nat} {cs:List AV} (h:TyR Tryz.prog (d+6) 23 cs):∃ l:List Req,cs = [.slice false 28 (l.map Zt)]∧l.length < 2 ^ 63∧∀ x∈l,x.src.path.length < 2 ^ 63:=by
 rw [TyR] at h
 simp only [Tryz.underlying23,ZmO] at h
 obtain ⟨xs,h1,h2,h3⟩:=h
 obtain ⟨l,rfl,h5⟩:=JL (f:=Zt) (p:=fun x=>x.src.path.length < 2 ^ 63) xs fun y hy=>ZpF (h3 y hy)
 exact ⟨l,h1,Zit (by simpa using h2),h5⟩
theorem Zk9 {d:Nat} {cs:List AV} (h:TyR Tryz.prog (d+6) 43 cs):∃ l:List ZJ,cs = [.slice false 13 (l.map Zd)]∧l.length < 2 ^ 63∧∀ x∈l,x.node.path.length < 2 ^ 63:=by
 rw [TyR] at h
 simp only [Tryz.underlying43,Zqj] at h
 obtain ⟨xs,h1,h2,h3⟩:=h
 obtain ⟨l,rfl,h5⟩:=JL (f:=Zd) (p:=fun x=>x.node.path.length < 2 ^ 63) xs fun y hy=>Zpm (h3 y hy)
 exact ⟨l,h1,Zit (by simpa using h2),h5⟩
theorem ZoF {d:Nat} {cs:List AV} (h:TyR Tryz.prog (d+6) 41 cs):∃ l:List ZdR,cs = [.slice false 4 (l.map Zj)]∧l.length < 2 ^ 63:=by
 rw [TyR] at h
 simp only [Tryz.underlying41,Zqk] at h
 obtain ⟨xs,h1,h2,h3⟩:=h
 obtain ⟨l,rfl,h5⟩:=JL (f:=Zj) (p:=fun _=>True) xs fun y hy=>(ZrG (h3 y hy)).elim fun a h=>⟨a,h,trivial⟩
 exact ⟨l,h1,Zit (by simpa using h2)⟩
theorem Zsi {d:Nat} {cs:List AV} (h:TyR Tryz.prog (d+6) 42 cs):∃ l:List Ans,cs = [.slice false 2 (l.map ZF)]∧l.length < 2 ^ 63:=by
 rw [TyR] at h
 simp only [Tryz.underlying42,Zql] at h
 obtain ⟨xs,h1,h2,h3⟩:=h
 obtain ⟨l,rfl,h5⟩:=JL (f:=ZF) (p:=fun _=>True) xs fun y hy=>(ZuD (h3 y hy)).elim fun a h=>⟨a,h,trivial⟩
 exact ⟨l,h1,Zit (by simpa using h2)⟩
def ZjY (s:Kg):List AV:=[.slice false 15 (s.slots.map Zf),.slice false 28 (s.pending.map Zt),.slice false 4 (s.marks.map Zj),.slice false 2 (s.answers.map ZF),.slice false 13 (s.entries.map Zd),.slice false 3 (Zb s.commits)]
theorem Zfg {d:Nat} {cs:List AV} (h:TyR Tryz.prog (d+7) 45 cs):∃ s:Kg,cs=ZjY s∧s.Fits:=by
 rw [TyR] at h
 simp only [Tryz.underlying45] at h
 obtain ⟨ps,rfl,hl,hp⟩:=h
 obtain ⟨p0,p1,p2,p3,p4,p5,rfl⟩:∃ p0 p1 p2 p3 p4 p5,ps = [p0,p1,p2,p3,p4,p5]:=by
  match ps,hl with
  | [p0, p1, p2, p3, p4, p5], _ => exact ⟨p0, p1, p2, p3, p4, p5, rfl⟩
 obtain ⟨a,rfl,a1,a2⟩:=Zj2 (hp 0 _ _ rfl rfl)
 obtain ⟨b,rfl,b1,b2⟩:=Zsq (hp 1 _ _ rfl rfl)
 obtain ⟨c,rfl,c1⟩:=ZoF (hp 2 _ _ rfl rfl)
 obtain ⟨d,rfl,d1⟩:=Zsi (hp 3 _ _ rfl rfl)
 obtain ⟨e,rfl,e1,e2⟩:=Zk9 (hp 4 _ _ rfl rfl)
 obtain ⟨f,rfl,f1⟩:=ZmI (hp 5 _ _ rfl rfl)
 exact ⟨⟨a,b,c,d,e,f⟩,rfl,⟨a1,b1,c1,d1,e1,Zit f1,a2,b2,e2⟩⟩
end Go.Proofs.YthdihcchfjlgkaaGreat
end

section
namespace Go.Proofs.YthdihcchfjlgkaaGreat
open Go Go.AM
set_option linter.unusedSimpArgs false
set_option linter.unusedVariables false
set_option maxRecDepth 100000
theorem ZN (l:List Int):(Za l).length=l.length:=by simp [Za]
theorem Zg7 (l:List Int) (n:Nat):(Za l).take n=Za (l.take n):=by simp [Za,List.map_take]
def Ju (z:Int):Bool:=decide (0≤z∧z≤1073741824)
def K2 (m:ZhG):Bool:=Z5 m.region&&Zs m.to
theorem s76 (z:Int):g76 z=some (Ju z):=by
 rw [Ztt]
 repeat' split
 all_goals (refine congrArg some ?_; rw [Zh]; simp only [Ju,CQ] at *; omega)
theorem s95 (z:Int):g95 z=some (Ju z):=by
 rw [ZuB]
 repeat' split
 all_goals (refine congrArg some ?_; rw [Zh]; simp only [Ju,CQ] at *; omega)
theorem ZBv (x:Yr) (hx:x.path.length < 2 ^ 63):Zzh x.id.core x.id.op x.id.part (Zb x.path) x.cap.kind x.cap.base x.cap.bits x.cap.rights x.cap.width x.cap.level x.cap.device=some (!ZK x):=by
 rw [Zqz,ZtE x hx,Option.bind_some]
theorem ZoH (l:List Yr) (hl:l.length < 2 ^ 63) (hp:∀ x∈l,x.path.length < 2 ^ 63):∃ r,ZfR (l.map ZP)=some r∧cop .geq r 0 = !(l.all ZK):=by
 rw [ZhR,List.length_map]
 have:=YD (F:=fun k i=>Ks k (l.map ZP) (l.length:Int) i) (n:=l.length) (fun i=>!atB ZK l i) hl
  (fun k i hi=>by
   show Ks (k+1) _ _ _=_
   rw [Zam,if_pos (Z2 hi)]
   refine (Yu hi _).trans ?_
   simp only [Ze3,d2,d4,d8,d16]
   rw [ZBv l[i] (hp _ (List.getElem_mem hi)),Option.bind_some,ZR hi hl,Je _ hi])
  (fun k i hi=>by show Ks (k+1) _ _ _=_; rw [Zam,if_neg (ZZ hi)])
 rw [Wa] at this
 exact this
theorem Zo8 (l:List Yr) (hl:l.length < 2 ^ 63) (hp:∀ x∈l,x.path.length < 2 ^ 63):Wi (l.map ZP)=some (!(l.all ZK)):=by
 obtain ⟨r,h1,h2⟩:=ZoH l hl hp
 rw [Zh5,h1,Option.bind_some,h2]
theorem ZAA (x:Id):Zw9 x.core x.op x.part=some (!WM x):=by
 rw [ZrH,Zu5,Option.bind_some,Kd]
theorem Zpv (l:List Id) (hl:l.length < 2 ^ 63):∃ r,Zfn (Zb l)=some r∧cop .geq r 0 = !(l.all WM):=by
 rw [ZiR,Z1]
 have:=YD (F:=fun k i=>Kr k (Zb l) (l.length:Int) i) (n:=l.length) (fun i=>!atB WM l i) hl
  (fun k i hi=>by
   show Kr (k+1) _ _ _=_
   rw [Zap,if_pos (Z2 hi)]
   refine (Wf hi _).trans ?_
   dsimp only
   rw [ZAA l[i],Option.bind_some,ZR hi hl,Je _ hi])
  (fun k i hi=>by show Kr (k+1) _ _ _=_; rw [Zap,if_neg (ZZ hi)])
 rw [Wa] at this
 exact this
theorem Zok (l:List Id) (hl:l.length < 2 ^ 63):Zb6 (Zb l)=some (!(l.all WM)):=by
 obtain ⟨r,h1,h2⟩:=Zpv l hl
 rw [ZhM,h1,Option.bind_some,h2]
theorem ZBQ (x:Int):ZyY x=some (!Zs x):=by
 rw [Zqc,s77,Option.bind_some]
theorem Zn5 (l:List Int) (hl:l.length < 2 ^ 63):∃ r,Zfy (Za l)=some r∧cop .geq r 0 = !(l.all Zs):=by
 rw [Zis,ZN]
 have:=YD (F:=fun k i=>Kw k (Za l) (l.length:Int) i) (n:=l.length) (fun i=>!atB Zs l i) hl
  (fun k i hi=>by
   show Kw (k+1) _ _ _=_
   rw [Za2,if_pos (Z2 hi)]
   refine (Z0 hi _).trans ?_
   skip
   rw [ZBQ l[i],Option.bind_some,ZR hi hl,Je _ hi])
  (fun k i hi=>by show Kw (k+1) _ _ _=_; rw [Za2,if_neg (ZZ hi)])
 rw [Wa] at this
 exact this
theorem ZnM (l:List Int) (hl:l.length < 2 ^ 63):Zb4 (Za l)=some (!(l.all Zs)):=by
 obtain ⟨r,h1,h2⟩:=Zn5 l hl
 rw [Zh0,h1,Option.bind_some,h2]
theorem ZBl (x:Int):Zy5 x=some (!Zs x):=by
 rw [Zst,s77,Option.bind_some]
theorem ZoI (l:List Int) (hl:l.length < 2 ^ 63):∃ r,ZfW (Za l)=some r∧cop .geq r 0 = !(l.all Zs):=by
 rw [ZiH,ZN]
 have:=YD (F:=fun k i=>Ku k (Za l) (l.length:Int) i) (n:=l.length) (fun i=>!atB Zs l i) hl
  (fun k i hi=>by
   show Ku (k+1) _ _ _=_
   rw [Za9,if_pos (Z2 hi)]
   refine (Z0 hi _).trans ?_
   skip
   rw [ZBl l[i],Option.bind_some,ZR hi hl,Je _ hi])
  (fun k i hi=>by show Ku (k+1) _ _ _=_; rw [Za9,if_neg (ZZ hi)])
 rw [Wa] at this
 exact this
theorem Zon (l:List Int) (hl:l.length < 2 ^ 63):ZfC (Za l)=some (!(l.all Zs)):=by
 obtain ⟨r,h1,h2⟩:=ZoI l hl
 rw [Zie,h1,Option.bind_some,h2]
theorem ZA9 (x:ZhG):Zym x.region x.to=some (!K2 x):=by
 rw [Zp1,ZwU,s77,Option.bind_some,Option.bind_some]
 unfold K2
 cases Z5 x.region <;> rfl
theorem Zpf (l:List ZhG) (hl:l.length < 2 ^ 63):∃ r,ZfD (l.map Z4)=some r∧cop .geq r 0 = !(l.all K2):=by
 rw [Zic,List.length_map]
 have:=YD (F:=fun k i=>KB k (l.map Z4) (l.length:Int) i) (n:=l.length) (fun i=>!atB K2 l i) hl
  (fun k i hi=>by
   show KB (k+1) _ _ _=_
   rw [ZaY,if_pos (Z2 hi)]
   refine (YT hi _).trans ?_
   dsimp only
   rw [ZA9 l[i],Option.bind_some,ZR hi hl,Je _ hi])
  (fun k i hi=>by show KB (k+1) _ _ _=_; rw [ZaY,if_neg (ZZ hi)])
 rw [Wa] at this
 exact this
theorem Zoz (l:List ZhG) (hl:l.length < 2 ^ 63):Zcg (l.map Z4)=some (!(l.all K2)):=by
 obtain ⟨r,h1,h2⟩:=Zpf l hl
 rw [Zil,h1,Option.bind_some,h2]
def ltI (a b:Int):Bool:=decide (a < b)
def ZcX (l:List Int):Bool:=l.all Zs&&KC ltI l
theorem Zzx (l:List Int) (hl:l.length < 2 ^ 63):Zuw (Za l)=some (ZcX l):=by
 rw [Zp7]
 have:=ZO (F:=fun k i=>ZbP k (Za l) i) (n:=l.length) (fin:=some true) (bad:=some false) (fun i=>atB Zs l i&&Vn ltI l i) hl 0 (by omega)
  (fun k i _ hi=>by
   show ZbP (k+1) (Za l) _=_
   rw [Zgy,ZN,if_pos (Z2 hi)]
   refine (Z0 hi _).trans ?_
   rw [ZR hi hl,Je _ hi]
   generalize ZbP k (Za l) ((i+1:Nat):Int)=X
   cases i with
   | zero =>
    simp only [s96,Option.bind_some,ZmN,Bool.false_eq_true,if_false,Vn,Bool.and_true]
    cases Zs l[0] <;> rfl
   | succ j =>
    simp only [s96,Option.bind_some,Zmi,if_true,ZdQ (show j+1 < 2 ^ 63 by omega),Z0 (show j < l.length by omega),Z0 hi,Kc _ hi]
    generalize l[j+1]=t
    generalize l[j]=u
    unfold ltI
    repeat' split
    all_goals (simp only [CQ] at * <;> grind))
  (fun k i hi=>by show ZbP (k+1) (Za l) _=_; rw [Zgy,ZN,if_neg (ZZ hi)])
 rw [Nat.sub_zero,ZcK] at this
 refine Eq.trans this ?_
 unfold ZcX
 cases (l.all Zs&&KC ltI l) <;> rfl
theorem ZBr (l:List ZhG) (hl:l.length < 2 ^ 63):Zzd (l.map Z4)=some (l.all K2&&decide (l.length≤16)):=by
 rw [Zqd]
 have:=ZO (F:=fun k i=>ZdA k (l.map Z4) i) (n:=l.length) (fin:=some (cop .leq (l.length:Int) 16)) (bad:=some false) (atB K2 l) hl 0 (by omega)
  (fun k i _ hi=>by
   show ZdA (k+1) (l.map Z4) _=_
   rw [ZgQ,List.length_map,if_pos (Z2 hi)]
   refine (YT hi _).trans ?_
   rw [ZR hi hl,Je _ hi]
   generalize ZdA k (l.map Z4) ((i+1:Nat):Int)=X
   simp only [Zv2,s96,Option.bind_some,YT hi]
   generalize l[i]=t
   unfold K2
   cases Z5 t.region <;> cases Zs t.to <;> rfl)
  (fun k i hi=>by show ZdA (k+1) (l.map Z4) _=_; rw [ZgQ,List.length_map,if_neg (ZZ hi)])
 rw [Nat.sub_zero,Zec] at this
 refine Eq.trans this ?_
 have e:cop .leq (l.length:Int) 16=decide (l.length≤16):=by rw [Zh]; simp only [CQ]; omega
 rw [e]
 cases l.all K2 <;> rfl
theorem ZA2 (l:List Int) (hl:l.length < 2 ^ 63) (a:Int):∃ r,Zzg (Za l) a=some r∧cop .geq r 0=l.any (fun x=>decide (a=x)):=by
 rw [ZrJ,ZN]
 have:=YD (F:=fun k i=>Zef k (Za l) a (l.length:Int) i) (n:=l.length) (fun i=>!atB (fun x=>!decide (a=x)) l i) hl
  (fun k i hi=>by
   show Zef (k+1) _ _ _ _=_
   rw [ZgI,if_pos (Z2 hi)]
   refine (Z0 hi _).trans ?_
   rw [ZR hi hl,Je _ hi,Bool.not_not]
   rfl)
  (fun k i hi=>by show Zef (k+1) _ _ _ _=_; rw [ZgI,if_neg (ZZ hi)])
 rw [Wa] at this
 have e:(!(l.all fun x=>!decide (a=x)))=l.any (fun x=>decide (a=x)):=by
  rw [List.any_eq_not_all_not]
 rw [e] at this
 exact this
theorem s67 (l:List Int) (hl:l.length < 2 ^ 63) (a:Int):g67 (Za l) a=some (l.any (fun x=>decide (a=x))):=by
 obtain ⟨r,h1,h2⟩:=ZA2 l hl a
 rw [ZtD,h1,Option.bind_some,h2]
theorem s59 (l:List Int) (hl:l.length < 2 ^ 63) (a:Int):g59 (Za l) a=some (l.any (fun x=>decide (a=x))):=by
 rw [Zuf]
 have:=ZO (F:=fun k i=>ZhO k (Za l) a i) (n:=l.length) (fin:=some false) (bad:=some true) (atB (fun x=>!decide (a=x)) l) hl 0 (by omega)
  (fun k i _ hi=>by
   show ZhO (k+1) (Za l) _ _=_
   rw [ZiZ,ZN,if_pos (Z2 hi)]
   refine (Z0 hi _).trans ?_
   rw [ZR hi hl,Je _ hi]
   generalize ZhO k (Za l) a ((i+1:Nat):Int)=X
   generalize l[i]=t
   by_cases h:a=t
   ·rw [if_pos (by simp only [CQ]; exact h.symm),if_neg (by simp [h])]
   ·rw [if_neg (by simp only [CQ]; exact fun he=>h he.symm),if_pos (by simp [h])])
  (fun k i hi=>by show ZhO (k+1) (Za l) _ _=_; rw [ZiZ,ZN,if_neg (ZZ hi)])
 rw [Nat.sub_zero,Zec] at this
 refine Eq.trans this ?_
 rw [List.any_eq_not_all_not]
 cases l.all (fun x=>!decide (a=x)) <;> rfl
def ZdY (l:List Int) (i:Nat):Bool:=match l[i]? with | some x=>!((l.take i).any (fun y=>decide (x=y))) | none=>true
def K3 (v:ZdT):Bool:=Ju v.number&&decide (v.members.length≤32)&&decide (v.owners.length≤16)&&(List.range' 0 v.members.length).all (fun i=>atB Zs v.members i&&ZdY v.members i)&&v.owners.all Zs
theorem ZjC {l:List Int} {i:Nat} (hi:i < l.length):ZdY l i = !((l.take i).any (fun y=>decide (l[i]=y))):=by
 unfold ZdY; rw [List.getElem?_eq_getElem hi]
theorem Zx7 (v:ZdT) (h1:v.members.length < 2 ^ 63) (h2:v.owners.length < 2 ^ 63):Zu2 v.number (Za v.members) (Za v.owners)=some (K3 v):=by
 rw [Zsb,ZN,ZN,s76,Option.bind_some]
 have:=ZO (F:=fun k i=>ZcT k v.number (Za v.members) (Za v.owners) (Za v.members) (v.members.length:Int) i) (n:=v.members.length) (fin:=some (v.owners.all Zs)) (bad:=some false) (fun i=>atB Zs v.members i&&ZdY v.members i) h1 0 (by omega)
  (fun k i _ hi=>by
   show ZcT (k+1) _ _ _ _ _ _=_
   rw [Zhp,if_pos (Z2 hi)]
   refine (Z0 hi _).trans ?_
   rw [s77,Option.bind_some,Zn (by omega),Zn (by rw [ZN]; omega),Int.toNat_natCast,Zg7,s67 _ (by rw [List.length_take]; omega),Option.bind_some,ZR hi h1,Je _ hi,ZjC hi]
   cases Zs v.members[i] <;> cases (v.members.take i).any (fun y=>decide (v.members[i]=y)) <;> rfl)
  (fun k i hi=>by
   show ZcT (k+1) _ _ _ _ _ _=_
   rw [Zhp,if_neg (ZZ hi),Zon _ h2,Option.bind_some,Bool.not_not])
 rw [Nat.sub_zero] at this
 have this:ZcT Zw v.number (Za v.members) (Za v.owners) (Za v.members) (v.members.length:Int) 0=_:=this
 rw [this]
 unfold K3
 by_cases a1:v.members.length≤32
 ·by_cases a2:v.owners.length≤16
  ·rw [if_neg (show ¬ (cop .gtr (v.members.length:Int) 32)=true by simp only [CQ]; omega),if_neg (show ¬ (cop .gtr (v.owners.length:Int) 16)=true by simp only [CQ]; omega),decide_eq_true a1,decide_eq_true a2]
   cases Ju v.number <;> cases (List.range' 0 v.members.length).all (fun i=>atB Zs v.members i&&ZdY v.members i) <;> rfl
  ·rw [if_neg (show ¬ (cop .gtr (v.members.length:Int) 32)=true by simp only [CQ]; omega),if_pos (show (cop .gtr (v.owners.length:Int) 16)=true by simp only [CQ]; omega),decide_eq_false a2]
   cases Ju v.number <;> simp
 ·rw [if_pos (show (cop .gtr (v.members.length:Int) 32)=true by simp only [CQ]; omega),decide_eq_false a1]
  cases Ju v.number <;> simp
theorem Zy6 (v:ZdT) (h1:v.members.length < 2 ^ 63) (h2:v.owners.length < 2 ^ 63):ZtK v.number (Za v.members) (Za v.owners)=some (K3 v):=by
 rw [ZrV,ZN,ZN,s95,Option.bind_some]
 have l0:=ZO (F:=fun k i=>Zc2 k v.number (Za v.members) (Za v.owners) i) (n:=v.owners.length) (fin:=some true) (bad:=some false) (atB Zs v.owners) h2 0 (by omega)
  (fun k i _ hi=>by
   show Zc2 (k+1) _ _ _ _=_
   rw [Zgg,ZN,if_pos (Z2 hi)]
   refine (Z0 hi _).trans ?_
   rw [s96,Option.bind_some,ZR hi h2,Je _ hi]
   cases Zs v.owners[i] <;> rfl)
  (fun k i hi=>by
   show Zc2 (k+1) _ _ _ _=_
   rw [Zgg,ZN,if_neg (ZZ hi)])
 rw [Nat.sub_zero,Zec] at l0
 have l0:Zc2 Zw v.number (Za v.members) (Za v.owners) 0=_:=l0
 have:=ZO (F:=fun k i=>Zdc k v.number (Za v.members) (Za v.owners) i) (n:=v.members.length) (fin:=some (v.owners.all Zs)) (bad:=some false) (fun i=>atB Zs v.members i&&ZdY v.members i) h1 0 (by omega)
  (fun k i _ hi=>by
   show Zdc (k+1) _ _ _ _=_
   rw [ZgV,ZN,if_pos (Z2 hi)]
   refine (Z0 hi _).trans ?_
   rw [s96,Option.bind_some,Zn (by omega),Zn (by omega),Int.toNat_natCast,Zg7,ZR hi h1,Je _ hi,ZjC hi]
   simp only [Z0 hi]
   rw [s59 _ (by rw [List.length_take]; omega),Option.bind_some]
   cases Zs v.members[i] <;> cases (v.members.take i).any (fun y=>decide (v.members[i]=y)) <;> rfl)
  (fun k i hi=>by
   show Zdc (k+1) _ _ _ _=_
   rw [ZgV,ZN,if_neg (ZZ hi),l0]
   cases v.owners.all Zs <;> rfl)
 rw [Nat.sub_zero] at this
 have this:Zdc Zw v.number (Za v.members) (Za v.owners) 0=_:=this
 rw [this]
 unfold K3
 by_cases a1:v.members.length≤32
 ·by_cases a2:v.owners.length≤16
  ·rw [if_neg (show ¬ (cop .gtr (v.members.length:Int) 32)=true by simp only [CQ]; omega),if_neg (show ¬ (cop .gtr (v.owners.length:Int) 16)=true by simp only [CQ]; omega),decide_eq_true a1,decide_eq_true a2]
   cases Ju v.number <;> cases (List.range' 0 v.members.length).all (fun i=>atB Zs v.members i&&ZdY v.members i) <;> rfl
  ·rw [if_neg (show ¬ (cop .gtr (v.members.length:Int) 32)=true by simp only [CQ]; omega),if_pos (show (cop .gtr (v.owners.length:Int) 16)=true by simp only [CQ]; omega),decide_eq_false a2]
   cases Ju v.number <;> simp
 ·rw [if_pos (show (cop .gtr (v.members.length:Int) 32)=true by simp only [CQ]; omega),decide_eq_false a1]
  cases Ju v.number <;> simp
structure ZdT.Fits (v:ZdT):Prop where
 members:v.members.length < 2 ^ 63
 owners:v.owners.length < 2 ^ 63
structure Yv.Fits (r:Yv):Prop where
 view:r.view.Fits
 state:r.state.Fits
 next:r.next.Fits
 proposal:r.proposal.Fits
def ZhK (r:Yv):Bool:=Zs r.core&&K3 r.view&&YI r.state&&K3 r.next&&YI r.proposal
theorem ZBL (r:Yv) (h:r.Fits):Zyx r.core r.view.number (Za r.view.members) (Za r.view.owners) (r.state.slots.map Zf) (r.state.pending.map Zt) (r.state.marks.map Zj) (r.state.answers.map ZF) (r.state.entries.map Zd) (Zb r.state.commits) r.ready r.next.number (Za r.next.members) (Za r.next.owners) (r.proposal.slots.map Zf) (r.proposal.pending.map Zt) (r.proposal.marks.map Zj) (r.proposal.answers.map ZF) (r.proposal.entries.map Zd) (Zb r.proposal.commits)=some (ZhK r):=by
 rw [Zrb,s77,Option.bind_some,Zx7 _ h.view.members h.view.owners,Option.bind_some,ZxV _ h.state,Option.bind_some,Zx7 _ h.next.members h.next.owners,Option.bind_some,ZxV _ h.proposal,Option.bind_some]
 unfold ZhK
 cases Zs r.core <;> cases K3 r.view <;> cases YI r.state <;> cases K3 r.next <;> cases YI r.proposal <;> rfl
theorem ZAN (r:Yv) (h:r.Fits):Zzv r.core r.view.number (Za r.view.members) (Za r.view.owners) (r.state.slots.map Zf) (r.state.pending.map Zt) (r.state.marks.map Zj) (r.state.answers.map ZF) (r.state.entries.map Zd) (Zb r.state.commits) r.ready r.next.number (Za r.next.members) (Za r.next.owners) (r.proposal.slots.map Zf) (r.proposal.pending.map Zt) (r.proposal.marks.map Zj) (r.proposal.answers.map ZF) (r.proposal.entries.map Zd) (Zb r.proposal.commits)=some (ZhK r):=by
 rw [ZqA,s96,Option.bind_some,Zy6 _ h.view.members h.view.owners,Option.bind_some,Zyd _ h.state,Option.bind_some,Zy6 _ h.next.members h.next.owners,Option.bind_some,Zyd _ h.proposal,Option.bind_some]
 unfold ZhK
 cases Zs r.core <;> cases K3 r.view <;> cases YI r.state <;> cases K3 r.next <;> cases YI r.proposal <;> rfl
end Go.Proofs.YthdihcchfjlgkaaGreat
end

section
namespace Go.Proofs.YthdihcchfjlgkaaGreat
open Go Go.AM
set_option linter.unusedSimpArgs false
set_option linter.unusedVariables false
set_option maxRecDepth 100000
structure Msg where
 kind:Int
 view:Int
 frm:Int
 to:Int
 round:Int
 region:Int
 slot:Int
 op:Id
 err:Int
 settled:Bool
 req:Req
 ids:List Id
 nodes:List Yr
 cores:List Int
 moves:List ZhG
 base:Int
 next:ZdT
 state:Kg
 report:Yv
structure Msg.Fits (m:Msg):Prop where
 req:m.req.src.path.length < 2 ^ 63
 ids:m.ids.length < 2 ^ 63
 nodes:m.nodes.length < 2 ^ 63
 node:∀ x∈m.nodes,x.path.length < 2 ^ 63
 cores:m.cores.length < 2 ^ 63
 moves:m.moves.length < 2 ^ 63
 next:m.next.Fits
 state:m.state.Fits
 report:m.report.Fits
def ZlB (m:Msg):Qt2:=(m.kind,m.view,m.frm,m.to,m.round,m.region,m.slot,m.op.core,m.op.op,m.op.part,m.err,m.settled,m.req.id.core,m.req.id.op,m.req.id.part,m.req.call.kind,m.req.call.slot,m.req.call.dest,m.req.call.core,m.req.call.mask,m.req.call.object,m.req.call.bits,m.req.call.level,m.req.call.offset,m.req.call.count,m.req.call.index,m.req.call.addr,m.req.region,m.req.width,m.req.src.id.core,m.req.src.id.op,m.req.src.id.part,(Zb m.req.src.path),m.req.src.cap.kind,m.req.src.cap.base,m.req.src.cap.bits,m.req.src.cap.rights,m.req.src.cap.width,m.req.src.cap.level,m.req.src.cap.device,(Zb m.ids),(m.nodes.map ZP),(Za m.cores),(m.moves.map Z4),m.base,m.next.number,(Za m.next.members),(Za m.next.owners),(m.state.slots.map Zf),(m.state.pending.map Zt),(m.state.marks.map Zj),(m.state.answers.map ZF),(m.state.entries.map Zd),(Zb m.state.commits),m.report.core,m.report.view.number,(Za m.report.view.members),(Za m.report.view.owners),(m.report.state.slots.map Zf),(m.report.state.pending.map Zt),(m.report.state.marks.map Zj),(m.report.state.answers.map ZF),(m.report.state.entries.map Zd),(Zb m.report.state.commits),m.report.ready,m.report.next.number,(Za m.report.next.members),(Za m.report.next.owners),(m.report.proposal.slots.map Zf),(m.report.proposal.pending.map Zt),(m.report.proposal.marks.map Zj),(m.report.proposal.answers.map ZF),(m.report.proposal.entries.map Zd),(Zb m.report.proposal.commits))
def ZtF:Call:=⟨0,0,0,0,0,0,0,0,0,0,0,0⟩
def Z9:Req:=⟨zid,ZtF,0,0,ZU⟩
def ZH:ZdT:=⟨0,[],[]⟩
def Zi:Kg:=⟨[],[],[],[],[],[]⟩
def Zm:Yv:=⟨0,ZH,Zi,false,ZH,Zi⟩
def clr (m:Msg):Nat→Msg
 | 0 => { m with region := 0 }
 | 1 => { m with req := Z9 }
 | 2 => { m with op := zid }
 | 3 => { m with err := 0 }
 | 4 => { m with settled := false }
 | 5 => { m with nodes := [] }
 | 6 => { m with slot := 0 }
 | 7 => { m with ids := [] }
 | 8 => { m with round := 0 }
 | 9 => { m with cores := [] }
 | 10 => { m with report := Zm }
 | 11 => { m with base := 0 }
 | 12 => { m with next := ZH }
 | 13 => { m with state := Zi }
 | 14 => { m with moves := [] }
 | _ => m
theorem s79 (m:Msg):∀ f:Nat,f < 15→g79 m.kind m.view m.frm m.to m.round m.region m.slot m.op.core m.op.op m.op.part m.err m.settled m.req.id.core m.req.id.op m.req.id.part m.req.call.kind m.req.call.slot m.req.call.dest m.req.call.core m.req.call.mask m.req.call.object m.req.call.bits m.req.call.level m.req.call.offset m.req.call.count m.req.call.index m.req.call.addr m.req.region m.req.width m.req.src.id.core m.req.src.id.op m.req.src.id.part (Zb m.req.src.path) m.req.src.cap.kind m.req.src.cap.base m.req.src.cap.bits m.req.src.cap.rights m.req.src.cap.width m.req.src.cap.level m.req.src.cap.device (Zb m.ids) (m.nodes.map ZP) (Za m.cores) (m.moves.map Z4) m.base m.next.number (Za m.next.members) (Za m.next.owners) (m.state.slots.map Zf) (m.state.pending.map Zt) (m.state.marks.map Zj) (m.state.answers.map ZF) (m.state.entries.map Zd) (Zb m.state.commits) m.report.core m.report.view.number (Za m.report.view.members) (Za m.report.view.owners) (m.report.state.slots.map Zf) (m.report.state.pending.map Zt) (m.report.state.marks.map Zj) (m.report.state.answers.map ZF) (m.report.state.entries.map Zd) (Zb m.report.state.commits) m.report.ready m.report.next.number (Za m.report.next.members) (Za m.report.next.owners) (m.report.proposal.slots.map Zf) (m.report.proposal.pending.map Zt) (m.report.proposal.marks.map Zj) (m.report.proposal.answers.map ZF) (m.report.proposal.entries.map Zd) (Zb m.report.proposal.commits) (f:Int)=some (ZlB (clr m f))
 | 0, _ => by rw [KD]; rfl
 | 1, _ => by rw [KD]; rfl
 | 2, _ => by rw [KD]; rfl
 | 3, _ => by rw [KD]; rfl
 | 4, _ => by rw [KD]; rfl
 | 5, _ => by rw [KD]; rfl
 | 6, _ => by rw [KD]; rfl
 | 7, _ => by rw [KD]; rfl
 | 8, _ => by rw [KD]; rfl
 | 9, _ => by rw [KD]; rfl
 | 10, _ => by rw [KD]; rfl
 | 11, _ => by rw [KD]; rfl
 | 12, _ => by rw [KD]; rfl
 | 13, _ => by rw [KD]; rfl
 | 14, _ => by rw [KD]; rfl
theorem ZBC (m:Msg) {j:Nat} (hj:j+1 < m.cores.length):Zyl (j:Int) ((j+1:Nat):Int) m.kind m.view m.frm m.to m.round m.region m.slot m.op.core m.op.op m.op.part m.err m.settled m.req.id.core m.req.id.op m.req.id.part m.req.call.kind m.req.call.slot m.req.call.dest m.req.call.core m.req.call.mask m.req.call.object m.req.call.bits m.req.call.level m.req.call.offset m.req.call.count m.req.call.index m.req.call.addr m.req.region m.req.width m.req.src.id.core m.req.src.id.op m.req.src.id.part (Zb m.req.src.path) m.req.src.cap.kind m.req.src.cap.base m.req.src.cap.bits m.req.src.cap.rights m.req.src.cap.width m.req.src.cap.level m.req.src.cap.device (Zb m.ids) (m.nodes.map ZP) (Za m.cores) (m.moves.map Z4) m.base m.next.number (Za m.next.members) (Za m.next.owners) (m.state.slots.map Zf) (m.state.pending.map Zt) (m.state.marks.map Zj) (m.state.answers.map ZF) (m.state.entries.map Zd) (Zb m.state.commits) m.report.core m.report.view.number (Za m.report.view.members) (Za m.report.view.owners) (m.report.state.slots.map Zf) (m.report.state.pending.map Zt) (m.report.state.marks.map Zj) (m.report.state.answers.map ZF) (m.report.state.entries.map Zd) (Zb m.report.state.commits) m.report.ready m.report.next.number (Za m.report.next.members) (Za m.report.next.owners) (m.report.proposal.slots.map Zf) (m.report.proposal.pending.map Zt) (m.report.proposal.marks.map Zj) (m.report.proposal.answers.map ZF) (m.report.proposal.entries.map Zd) (Zb m.report.proposal.commits)=some (ltI m.cores[j] m.cores[j+1],ZlB m):=by
 rw [Zqa]
 refine (Z0 (show j < m.cores.length by omega) _).trans ?_
 refine (Z0 hj _).trans ?_
 rfl
theorem Zpr (m:Msg) (h:m.Fits):Zce (m.cores.length:Int) m.kind m.view m.frm m.to m.round m.region m.slot m.op.core m.op.op m.op.part m.err m.settled m.req.id.core m.req.id.op m.req.id.part m.req.call.kind m.req.call.slot m.req.call.dest m.req.call.core m.req.call.mask m.req.call.object m.req.call.bits m.req.call.level m.req.call.offset m.req.call.count m.req.call.index m.req.call.addr m.req.region m.req.width m.req.src.id.core m.req.src.id.op m.req.src.id.part (Zb m.req.src.path) m.req.src.cap.kind m.req.src.cap.base m.req.src.cap.bits m.req.src.cap.rights m.req.src.cap.width m.req.src.cap.level m.req.src.cap.device (Zb m.ids) (m.nodes.map ZP) (Za m.cores) (m.moves.map Z4) m.base m.next.number (Za m.next.members) (Za m.next.owners) (m.state.slots.map Zf) (m.state.pending.map Zt) (m.state.marks.map Zj) (m.state.answers.map ZF) (m.state.entries.map Zd) (Zb m.state.commits) m.report.core m.report.view.number (Za m.report.view.members) (Za m.report.view.owners) (m.report.state.slots.map Zf) (m.report.state.pending.map Zt) (m.report.state.marks.map Zj) (m.report.state.answers.map ZF) (m.report.state.entries.map Zd) (Zb m.report.state.commits) m.report.ready m.report.next.number (Za m.report.next.members) (Za m.report.next.owners) (m.report.proposal.slots.map Zf) (m.report.proposal.pending.map Zt) (m.report.proposal.marks.map Zj) (m.report.proposal.answers.map ZF) (m.report.proposal.entries.map Zd) (Zb m.report.proposal.commits)=some (KC ltI m.cores,ZlB m):=by
 rw [ZhZ]
 have:=ZO (F:=fun k i=>WA k (m.cores.length:Int) i m.kind m.view m.frm m.to m.round m.region m.slot m.op.core m.op.op m.op.part m.err m.settled m.req.id.core m.req.id.op m.req.id.part m.req.call.kind m.req.call.slot m.req.call.dest m.req.call.core m.req.call.mask m.req.call.object m.req.call.bits m.req.call.level m.req.call.offset m.req.call.count m.req.call.index m.req.call.addr m.req.region m.req.width m.req.src.id.core m.req.src.id.op m.req.src.id.part (Zb m.req.src.path) m.req.src.cap.kind m.req.src.cap.base m.req.src.cap.bits m.req.src.cap.rights m.req.src.cap.width m.req.src.cap.level m.req.src.cap.device (Zb m.ids) (m.nodes.map ZP) (Za m.cores) (m.moves.map Z4) m.base m.next.number (Za m.next.members) (Za m.next.owners) (m.state.slots.map Zf) (m.state.pending.map Zt) (m.state.marks.map Zj) (m.state.answers.map ZF) (m.state.entries.map Zd) (Zb m.state.commits) m.report.core m.report.view.number (Za m.report.view.members) (Za m.report.view.owners) (m.report.state.slots.map Zf) (m.report.state.pending.map Zt) (m.report.state.marks.map Zj) (m.report.state.answers.map ZF) (m.report.state.entries.map Zd) (Zb m.report.state.commits) m.report.ready m.report.next.number (Za m.report.next.members) (Za m.report.next.owners) (m.report.proposal.slots.map Zf) (m.report.proposal.pending.map Zt) (m.report.proposal.marks.map Zj) (m.report.proposal.answers.map ZF) (m.report.proposal.entries.map Zd) (Zb m.report.proposal.commits)) (n:=m.cores.length) (fin:=some (true,ZlB m)) (bad:=some (false,ZlB m)) (Vn ltI m.cores) h.cores 1 (by omega)
  (fun k i h1 hi=>by
   obtain ⟨j,rfl⟩:∃ j,i=j+1:=⟨i - 1,by omega⟩
   refine (Zat ..).trans ?_
   rw [if_pos (Z2 hi),ZdQ (by have:=h.cores; omega),ZBC m hi,Option.bind_some,ZR hi h.cores,Kc _ hi]
   cases ltI m.cores[j] m.cores[j+1] <;> rfl)
  (fun k i hi=>by refine (Zat ..).trans ?_; rw [if_neg (ZZ hi)]; rfl)
 rw [Zs4] at this
 refine Eq.trans this ?_
 cases KC ltI m.cores <;> rfl
def Zg (m:Msg):Nat→Bool
 | 0 => Z5 m.region
 | 1 => KK m.req
 | 2 => ZbX m.op
 | 3 => Zc6 m.err
 | 5 => decide (m.nodes.length ≤ 8) && (decide (m.kind ≠ 4) || decide (m.nodes.length = 1)) && m.nodes.all ZK
 | 6 => Jw m.slot
 | 7 => decide (m.ids.length ≤ 64) && m.ids.all WM
 | 8 => Ju m.round
 | 9 => ZcX m.cores
 | 10 => ZhK m.report
 | 11 => Ju m.base
 | 12 => K3 m.next
 | 13 => YI m.state
 | 14 => decide (m.moves.length ≤ 16) && m.moves.all K2
 | _ => true
theorem s78 (m:Msg) (h:m.Fits):∀ f:Nat,f < 15→g78 m.kind m.view m.frm m.to m.round m.region m.slot m.op.core m.op.op m.op.part m.err m.settled m.req.id.core m.req.id.op m.req.id.part m.req.call.kind m.req.call.slot m.req.call.dest m.req.call.core m.req.call.mask m.req.call.object m.req.call.bits m.req.call.level m.req.call.offset m.req.call.count m.req.call.index m.req.call.addr m.req.region m.req.width m.req.src.id.core m.req.src.id.op m.req.src.id.part (Zb m.req.src.path) m.req.src.cap.kind m.req.src.cap.base m.req.src.cap.bits m.req.src.cap.rights m.req.src.cap.width m.req.src.cap.level m.req.src.cap.device (Zb m.ids) (m.nodes.map ZP) (Za m.cores) (m.moves.map Z4) m.base m.next.number (Za m.next.members) (Za m.next.owners) (m.state.slots.map Zf) (m.state.pending.map Zt) (m.state.marks.map Zj) (m.state.answers.map ZF) (m.state.entries.map Zd) (Zb m.state.commits) m.report.core m.report.view.number (Za m.report.view.members) (Za m.report.view.owners) (m.report.state.slots.map Zf) (m.report.state.pending.map Zt) (m.report.state.marks.map Zj) (m.report.state.answers.map ZF) (m.report.state.entries.map Zd) (Zb m.report.state.commits) m.report.ready m.report.next.number (Za m.report.next.members) (Za m.report.next.owners) (m.report.proposal.slots.map Zf) (m.report.proposal.pending.map Zt) (m.report.proposal.marks.map Zj) (m.report.proposal.answers.map ZF) (m.report.proposal.entries.map Zd) (Zb m.report.proposal.commits) (f:Int)=some (Zg m f)
 | 0, _ => by
   refine (KF ..).trans ?_
   exact (congrArg (fun x=>Option.bind x some) (ZwU _))
 | 1, _ => by
   refine (KF ..).trans ?_
   exact (congrArg (fun x=>Option.bind x some) (ZzY _ h.req))
 | 2, _ => by
   refine (KF ..).trans ?_
   exact (congrArg (fun x=>Option.bind x some) (Zw0 _))
 | 3, _ => by
   refine (KF ..).trans ?_
   exact (congrArg (fun x=>Option.bind x some) (ZzS _))
 | 4, _ => by
   refine (KF ..).trans ?_
   rfl
 | 5, _ => by
   refine (KF ..).trans ?_
   show (if (cop .gtr ((m.nodes.map ZP).length:Int) 8)=true then some false else if (cop .eql m.kind 4)=true then (if (cop .neq ((m.nodes.map ZP).length:Int) 1)=true then some false else (Wi (m.nodes.map ZP)).bind fun r=>some (!r)) else (Wi (m.nodes.map ZP)).bind fun r=>some (!r))=_
   rw [List.length_map,Zo8 _ h.nodes h.node]
   repeat' split
   all_goals (refine congrArg some ?_; rw [Zh]; simp only [Zg,Bool.not_not,CQ] at * <;> grind)
 | 6, _ => by
   refine (KF ..).trans ?_
   exact (congrArg (fun x=>Option.bind x some) (ZzV _))
 | 7, _ => by
   refine (KF ..).trans ?_
   show (if (cop .leq ((Zb m.ids).length:Int) 64)=true then (Zb6 (Zb m.ids)).bind fun r=>some (!r) else some false)=_
   rw [Z1,Zok _ h.ids]
   repeat' split
   all_goals (refine congrArg some ?_; rw [Zh]; simp only [Zg,Bool.not_not,CQ] at * <;> grind)
 | 8, _ => by
   refine (KF ..).trans ?_
   exact (congrArg (fun x=>Option.bind x some) (s76 _))
 | 9, _ => by
   refine (KF ..).trans ?_
   show ((Zb4 (Za m.cores)).bind fun (r:Bool)=>if (!r)=true then (Zce ((Za m.cores).length:Int) m.kind m.view m.frm m.to m.round m.region m.slot m.op.core m.op.op m.op.part m.err m.settled m.req.id.core m.req.id.op m.req.id.part m.req.call.kind m.req.call.slot m.req.call.dest m.req.call.core m.req.call.mask m.req.call.object m.req.call.bits m.req.call.level m.req.call.offset m.req.call.count m.req.call.index m.req.call.addr m.req.region m.req.width m.req.src.id.core m.req.src.id.op m.req.src.id.part (Zb m.req.src.path) m.req.src.cap.kind m.req.src.cap.base m.req.src.cap.bits m.req.src.cap.rights m.req.src.cap.width m.req.src.cap.level m.req.src.cap.device (Zb m.ids) (m.nodes.map ZP) (Za m.cores) (m.moves.map Z4) m.base m.next.number (Za m.next.members) (Za m.next.owners) (m.state.slots.map Zf) (m.state.pending.map Zt) (m.state.marks.map Zj) (m.state.answers.map ZF) (m.state.entries.map Zd) (Zb m.state.commits) m.report.core m.report.view.number (Za m.report.view.members) (Za m.report.view.owners) (m.report.state.slots.map Zf) (m.report.state.pending.map Zt) (m.report.state.marks.map Zj) (m.report.state.answers.map ZF) (m.report.state.entries.map Zd) (Zb m.report.state.commits) m.report.ready m.report.next.number (Za m.report.next.members) (Za m.report.next.owners) (m.report.proposal.slots.map Zf) (m.report.proposal.pending.map Zt) (m.report.proposal.marks.map Zj) (m.report.proposal.answers.map ZF) (m.report.proposal.entries.map Zd) (Zb m.report.proposal.commits)).bind fun r=>some r.1 else some false)=_
   rw [ZnM _ h.cores,ZN,Zpr m h,Option.bind_some,Option.bind_some]
   show _=some (m.cores.all Zs&&KC ltI m.cores)
   cases m.cores.all Zs <;> rfl
 | 10, _ => by
   refine (KF ..).trans ?_
   exact (congrArg (fun x=>Option.bind x some) (ZBL _ h.report))
 | 11, _ => by
   refine (KF ..).trans ?_
   exact (congrArg (fun x=>Option.bind x some) (s76 _))
 | 12, _ => by
   refine (KF ..).trans ?_
   exact (congrArg (fun x=>Option.bind x some) (Zx7 _ h.next.members h.next.owners))
 | 13, _ => by
   refine (KF ..).trans ?_
   exact (congrArg (fun x=>Option.bind x some) (ZxV _ h.state))
 | 14, _ => by
   refine (KF ..).trans ?_
   show (if (cop .leq ((m.moves.map Z4).length:Int) 16)=true then (Zcg (m.moves.map Z4)).bind fun r=>some (!r) else some false)=_
   rw [List.length_map,Zoz _ h.moves]
   repeat' split
   all_goals (refine congrArg some ?_; rw [Zh]; simp only [Zg,Bool.not_not,CQ] at * <;> grind)
def ZsM (r:Req):Bool:=decide (r.id=zid)&&decide (r.call.kind=0∧r.call.slot=0∧r.call.dest=0∧r.call.core=0∧r.call.mask=0∧r.call.object=0∧r.call.bits=0∧r.call.level=0∧r.call.offset=0∧r.call.count=0∧r.call.index=0∧r.call.addr=0)&&decide (r.region=0)&&decide (r.width=0)&&KJ r.src ZU
def Zd2 (v:ZdT):Bool:=decide (v.number=0)&&decide (v.members.length=0)&&decide (v.owners.length=0)
def ZaN (s:Kg):Bool:=decide (s.slots.length=0)&&decide (s.pending.length=0)&&decide (s.marks.length=0)&&decide (s.answers.length=0)&&decide (s.entries.length=0)&&decide (s.commits.length=0)
def ZbB (r:Yv):Bool:=decide (r.core=0)&&Zd2 r.view&&ZaN r.state&&!r.ready&&Zd2 r.next&&ZaN r.proposal
theorem Zll (n:Nat):cop .eql (n:Int) 0=decide (n=0):=by rw [Zh]; simp only [CQ]; omega
theorem Zrx (z:Int):cop .eql z 0=decide (z=0):=rfl
theorem ZBY (r:Req) (h:r.src.path.length < 2 ^ 63):ZzE r.id.core r.id.op r.id.part r.call.kind r.call.slot r.call.dest r.call.core r.call.mask r.call.object r.call.bits r.call.level r.call.offset r.call.count r.call.index r.call.addr r.region r.width r.src.id.core r.src.id.op r.src.id.part (Zb r.src.path) r.src.cap.kind r.src.cap.base r.src.cap.bits r.src.cap.rights r.src.cap.width r.src.cap.level r.src.cap.device=some (ZsM r):=by
 rw [Zsx,ZrS _ h,Option.bind_some]
 simp only [YS,Kd]
 unfold ZsM
 repeat' split
 all_goals (refine congrArg some ?_; rw [Zh]; simp only [CQ] at * <;> grind)
theorem Zyi (v:ZdT):ZtH v.number (Za v.members) (Za v.owners)=some (Zd2 v):=by
 rw [Zr2,ZN,ZN,Zll,Zll,Zrx]
 unfold Zd2
 cases decide (v.number=0) <;> cases decide (v.members.length=0) <;> rfl
theorem Zx1 (s:Kg):ZtS (s.slots.map Zf) (s.pending.map Zt) (s.marks.map Zj) (s.answers.map ZF) (s.entries.map Zd) (Zb s.commits)=some (ZaN s):=by
 rw [ZrQ,List.length_map,List.length_map,List.length_map,List.length_map,List.length_map,Z1,Zll,Zll,Zll,Zll,Zll,Zll]
 unfold ZaN
 cases decide (s.slots.length=0) <;> cases decide (s.pending.length=0) <;> cases decide (s.marks.length=0) <;> cases decide (s.answers.length=0) <;> cases decide (s.entries.length=0) <;> rfl
theorem ZBX (r:Yv):Zw8 r.core r.view.number (Za r.view.members) (Za r.view.owners) (r.state.slots.map Zf) (r.state.pending.map Zt) (r.state.marks.map Zj) (r.state.answers.map ZF) (r.state.entries.map Zd) (Zb r.state.commits) r.ready r.next.number (Za r.next.members) (Za r.next.owners) (r.proposal.slots.map Zf) (r.proposal.pending.map Zt) (r.proposal.marks.map Zj) (r.proposal.answers.map ZF) (r.proposal.entries.map Zd) (Zb r.proposal.commits)=some (ZbB r):=by
 rw [ZqW,Zyi,Zx1,Zyi,Zx1,Zrx,Option.bind_some,Option.bind_some,Option.bind_some,Option.bind_some]
 unfold ZbB
 cases decide (r.core=0) <;> cases Zd2 r.view <;> cases ZaN r.state <;> cases r.ready <;> cases Zd2 r.next <;> rfl
def zf (m:Msg):Nat→Bool
 | 0 => decide (m.region = 0)
 | 1 => ZsM m.req
 | 2 => decide (m.op = zid)
 | 3 => decide (m.err = 0)
 | 4 => !m.settled
 | 5 => decide (m.nodes.length = 0)
 | 6 => decide (m.slot = 0)
 | 7 => decide (m.ids.length = 0)
 | 8 => decide (m.round = 0)
 | 9 => decide (m.cores.length = 0)
 | 10 => ZbB m.report
 | 11 => decide (m.base = 0)
 | 12 => Zd2 m.next
 | 13 => ZaN m.state
 | 14 => decide (m.moves.length = 0)
 | _ => true
def Zya (m:Msg):Bool:=(List.range 15).all (zf m)
theorem Jr (b:Bool) {y:Bool} {x:Option Bool} (h:x=some y):(if b=true then x else some false)=some (b&&y):=by cases b <;> simp [h]
theorem s80 (m:Msg) (h:m.req.src.path.length < 2 ^ 63):g80 m.kind m.view m.frm m.to m.round m.region m.slot m.op.core m.op.op m.op.part m.err m.settled m.req.id.core m.req.id.op m.req.id.part m.req.call.kind m.req.call.slot m.req.call.dest m.req.call.core m.req.call.mask m.req.call.object m.req.call.bits m.req.call.level m.req.call.offset m.req.call.count m.req.call.index m.req.call.addr m.req.region m.req.width m.req.src.id.core m.req.src.id.op m.req.src.id.part (Zb m.req.src.path) m.req.src.cap.kind m.req.src.cap.base m.req.src.cap.bits m.req.src.cap.rights m.req.src.cap.width m.req.src.cap.level m.req.src.cap.device (Zb m.ids) (m.nodes.map ZP) (Za m.cores) (m.moves.map Z4) m.base m.next.number (Za m.next.members) (Za m.next.owners) (m.state.slots.map Zf) (m.state.pending.map Zt) (m.state.marks.map Zj) (m.state.answers.map ZF) (m.state.entries.map Zd) (Zb m.state.commits) m.report.core m.report.view.number (Za m.report.view.members) (Za m.report.view.owners) (m.report.state.slots.map Zf) (m.report.state.pending.map Zt) (m.report.state.marks.map Zj) (m.report.state.answers.map ZF) (m.report.state.entries.map Zd) (Zb m.report.state.commits) m.report.ready m.report.next.number (Za m.report.next.members) (Za m.report.next.owners) (m.report.proposal.slots.map Zf) (m.report.proposal.pending.map Zt) (m.report.proposal.marks.map Zj) (m.report.proposal.answers.map ZF) (m.report.proposal.entries.map Zd) (Zb m.report.proposal.commits)=some (Zya m):=by
 rw [ZuP,ZBY _ h,Zyi,Zx1,ZBX,Z1,List.length_map,ZN,List.length_map,Zll,Zll,Zll,Zll,Zrx m.round,Zrx m.region,Zrx m.slot,Zrx m.err,Zrx m.base]
 have e:((cop .eql m.op.core 0)&&((cop .eql m.op.op 0)&&((cop .eql m.op.part 0)&&true)))=decide (m.op=zid):=by
  rw [Zh,YS,Kd,decide_eq_true_eq]
 rw [e]
 simp only [Option.bind_some]
 refine Eq.trans (Jr _ (Jr _ (Jr _ (Jr _ (Jr _ (Jr _ (Jr _ (Jr _ (Jr _ (Jr _ (Jr _ (Jr _ (Jr _ (Jr _ (rfl))))))))))))))) ?_
 refine congrArg some ?_
 show _=(zf m 0&&(zf m 1&&(zf m 2&&(zf m 3&&(zf m 4&&(zf m 5&&(zf m 6&&(zf m 7&&(zf m 8&&(zf m 9&&(zf m 10&&(zf m 11&&(zf m 12&&(zf m 13&&(zf m 14&&true)))))))))))))))
 simp only [zf,Bool.and_true]
 ac_rfl
end Go.Proofs.YthdihcchfjlgkaaGreat
end

section
namespace Go.Proofs.YthdihcchfjlgkaaGreat
open Go Go.AM
set_option linter.unusedSimpArgs false
set_option linter.unusedVariables false
set_option maxRecDepth 100000
def kf:Nat→List Nat
 | 1 => [0, 1]
 | 2 => [0, 2, 3, 4, 5]
 | 3 => [0, 2]
 | 4 => [0, 2, 6, 5]
 | 5 => [0, 2, 3]
 | 6 => [0, 2, 7]
 | 7 => [0, 2]
 | 8 => [0, 2]
 | 9 => [0, 2]
 | 10 => [0, 2]
 | 11 => [0, 2]
 | 12 => [8, 9]
 | 13 => [8, 10]
 | 14 => [8, 11, 9, 12, 13]
 | 15 => [8]
 | 16 => [8]
 | 17 => [9, 14]
 | _ => []
def fc (l:List Nat):List (List AV):=l.map fun f:Nat=>[I (f:Int)]
theorem s75:∀ n:Nat,1≤n→n≤17→g75 (n:Int)=some (fc (kf n),true)
 | 1, _, _ => by rw [YK]; rfl
 | 2, _, _ => by rw [YK]; rfl
 | 3, _, _ => by rw [YK]; rfl
 | 4, _, _ => by rw [YK]; rfl
 | 5, _, _ => by rw [YK]; rfl
 | 6, _, _ => by rw [YK]; rfl
 | 7, _, _ => by rw [YK]; rfl
 | 8, _, _ => by rw [YK]; rfl
 | 9, _, _ => by rw [YK]; rfl
 | 10, _, _ => by rw [YK]; rfl
 | 11, _, _ => by rw [YK]; rfl
 | 12, _, _ => by rw [YK]; rfl
 | 13, _, _ => by rw [YK]; rfl
 | 14, _, _ => by rw [YK]; rfl
 | 15, _, _ => by rw [YK]; rfl
 | 16, _, _ => by rw [YK]; rfl
 | 17, _, _ => by rw [YK]; rfl
 | n + 18, _, h => absurd h (by omega)
theorem ZAU (k:Int) (h:¬ (1≤k∧k≤17)):g75 k=some (([] : List (List AV)),false):=by
 rw [YK]
 rw [if_neg (show ¬ (cop .eql k 1)=true by simp only [CQ]; omega)]
 rw [if_neg (show ¬ (cop .eql k 2)=true by simp only [CQ]; omega)]
 rw [if_neg (show ¬ (cop .eql k 3)=true by simp only [CQ]; omega)]
 rw [if_neg (show ¬ (cop .eql k 7)=true by simp only [CQ]; omega)]
 rw [if_neg (show ¬ (cop .eql k 8)=true by simp only [CQ]; omega)]
 rw [if_neg (show ¬ (cop .eql k 9)=true by simp only [CQ]; omega)]
 rw [if_neg (show ¬ (cop .eql k 10)=true by simp only [CQ]; omega)]
 rw [if_neg (show ¬ (cop .eql k 11)=true by simp only [CQ]; omega)]
 rw [if_neg (show ¬ (cop .eql k 4)=true by simp only [CQ]; omega)]
 rw [if_neg (show ¬ (cop .eql k 5)=true by simp only [CQ]; omega)]
 rw [if_neg (show ¬ (cop .eql k 6)=true by simp only [CQ]; omega)]
 rw [if_neg (show ¬ (cop .eql k 12)=true by simp only [CQ]; omega)]
 rw [if_neg (show ¬ (cop .eql k 13)=true by simp only [CQ]; omega)]
 rw [if_neg (show ¬ (cop .eql k 14)=true by simp only [CQ]; omega)]
 rw [if_neg (show ¬ (cop .eql k 15)=true by simp only [CQ]; omega)]
 rw [if_neg (show ¬ (cop .eql k 16)=true by simp only [CQ]; omega)]
 rw [if_neg (show ¬ (cop .eql k 17)=true by simp only [CQ]; omega)]
theorem ZxO (n:Nat):∀ f∈kf n,f < 15:=by
 intro f hf
 unfold kf at hf
 split at hf <;> simp at hf <;> omega
theorem ZrP {γ:Type} {l:List Nat} {i:Nat} (h:i < l.length) (k:Int→Option γ):Zl (fc l) (i:Int) [.int .i64] k=k (l[i] : Int):=J9 (f:=fun n:Nat=>[I (n:Int)]) (sh:=[.int .i64]) (v:=fun n:Nat=>(n:Int)) (fun _=>rfl) h k
theorem Zpt (r:Msg) (f:Nat) (h:r.req.src.path.length < 2 ^ 63):(clr r f).req.src.path.length < 2 ^ 63:=by
 unfold clr
 split <;> first | exact h | (show ([] : List Id).length < 2 ^ 63; simp)
theorem l44 (m:Msg) (h:m.Fits) (L:List Nat) (hL:∀ f∈L,f < 15) (hn:L.length < 2 ^ 63):∀ (j i fuel:Nat) (r:Msg),L.length=i+j→j < fuel→r.req.src.path.length < 2 ^ 63→
  Zpo fuel m.kind m.view m.frm m.to m.round m.region m.slot m.op.core m.op.op m.op.part m.err m.settled m.req.id.core m.req.id.op m.req.id.part m.req.call.kind m.req.call.slot m.req.call.dest m.req.call.core m.req.call.mask m.req.call.object m.req.call.bits m.req.call.level m.req.call.offset m.req.call.count m.req.call.index m.req.call.addr m.req.region m.req.width m.req.src.id.core m.req.src.id.op m.req.src.id.part (Zb m.req.src.path) m.req.src.cap.kind m.req.src.cap.base m.req.src.cap.bits m.req.src.cap.rights m.req.src.cap.width m.req.src.cap.level m.req.src.cap.device (Zb m.ids) (m.nodes.map ZP) (Za m.cores) (m.moves.map Z4) m.base m.next.number (Za m.next.members) (Za m.next.owners) (m.state.slots.map Zf) (m.state.pending.map Zt) (m.state.marks.map Zj) (m.state.answers.map ZF) (m.state.entries.map Zd) (Zb m.state.commits) m.report.core m.report.view.number (Za m.report.view.members) (Za m.report.view.owners) (m.report.state.slots.map Zf) (m.report.state.pending.map Zt) (m.report.state.marks.map Zj) (m.report.state.answers.map ZF) (m.report.state.entries.map Zd) (Zb m.report.state.commits) m.report.ready m.report.next.number (Za m.report.next.members) (Za m.report.next.owners) (m.report.proposal.slots.map Zf) (m.report.proposal.pending.map Zt) (m.report.proposal.marks.map Zj) (m.report.proposal.answers.map ZF) (m.report.proposal.entries.map Zd) (Zb m.report.proposal.commits) r.kind r.view r.frm r.to r.round r.region r.slot r.op.core r.op.op r.op.part r.err r.settled r.req.id.core r.req.id.op r.req.id.part r.req.call.kind r.req.call.slot r.req.call.dest r.req.call.core r.req.call.mask r.req.call.object r.req.call.bits r.req.call.level r.req.call.offset r.req.call.count r.req.call.index r.req.call.addr r.req.region r.req.width r.req.src.id.core r.req.src.id.op r.req.src.id.part (Zb r.req.src.path) r.req.src.cap.kind r.req.src.cap.base r.req.src.cap.bits r.req.src.cap.rights r.req.src.cap.width r.req.src.cap.level r.req.src.cap.device (Zb r.ids) (r.nodes.map ZP) (Za r.cores) (r.moves.map Z4) r.base r.next.number (Za r.next.members) (Za r.next.owners) (r.state.slots.map Zf) (r.state.pending.map Zt) (r.state.marks.map Zj) (r.state.answers.map ZF) (r.state.entries.map Zd) (Zb r.state.commits) r.report.core r.report.view.number (Za r.report.view.members) (Za r.report.view.owners) (r.report.state.slots.map Zf) (r.report.state.pending.map Zt) (r.report.state.marks.map Zj) (r.report.state.answers.map ZF) (r.report.state.entries.map Zd) (Zb r.report.state.commits) r.report.ready r.report.next.number (Za r.report.next.members) (Za r.report.next.owners) (r.report.proposal.slots.map Zf) (r.report.proposal.pending.map Zt) (r.report.proposal.marks.map Zj) (r.report.proposal.answers.map ZF) (r.report.proposal.entries.map Zd) (Zb r.report.proposal.commits) (fc L) (L.length:Int) (i:Int)=some ((L.drop i).all (Zg m)&&Zya ((L.drop i).foldl clr r)):=by
 intro j
 induction j with
 | zero =>
  intro i fuel r hij hf hr
  obtain ⟨f,rfl⟩:∃ f,fuel=f+1:=⟨fuel - 1,by omega⟩
  refine (Zjw ..).trans ?_
  rw [if_neg (ZZ (by omega)),s80 r hr,Option.bind_some,List.drop_of_length_le (by omega)]
  rfl
 | succ j ih =>
  intro i fuel r hij hf hr
  obtain ⟨f,rfl⟩:∃ f,fuel=f+1:=⟨fuel - 1,by omega⟩
  have hi:i < L.length:=by omega
  have hlt:=hL _ (List.getElem_mem hi)
  refine (Zjw ..).trans ?_
  rw [if_pos (Z2 hi)]
  refine (ZrP hi _).trans ?_
  rw [s78 m h _ hlt,Option.bind_some,List.drop_eq_getElem_cons hi,List.all_cons,List.foldl_cons,ZR hi hn]
  cases Zg m L[i] with
  | false => rfl
  | true =>
   rw [if_neg (by simp),s79 r _ hlt,Option.bind_some,Bool.true_and]
   exact ih (i+1) f (clr r L[i]) (by omega) (by omega) (Zpt r _ hr)
def kindOk (k:Int):Bool:=decide (1≤k∧k≤17)
def headOk (m:Msg):Bool:=kindOk m.kind&&Ju m.view&&Zs m.frm&&Zs m.to
def rest (n:Nat) (m:Msg):Bool:=(List.range 15).all (fun g=>(kf n).contains g||zf m g)
def K0 (m:Msg):Bool:=headOk m&&((kf m.kind.toNat).all (Zg m)&&rest m.kind.toNat m)
theorem Zq2 (m:Msg):∀ n:Nat,1≤n→n≤17→Zya ((kf n).foldl clr m)=rest n m
 | 1, _, _ => by kernel_rfl
 | 2, _, _ => by kernel_rfl
 | 3, _, _ => by kernel_rfl
 | 4, _, _ => by kernel_rfl
 | 5, _, _ => by kernel_rfl
 | 6, _, _ => by kernel_rfl
 | 7, _, _ => by kernel_rfl
 | 8, _, _ => by kernel_rfl
 | 9, _, _ => by kernel_rfl
 | 10, _, _ => by kernel_rfl
 | 11, _, _ => by kernel_rfl
 | 12, _, _ => by kernel_rfl
 | 13, _, _ => by kernel_rfl
 | 14, _, _ => by kernel_rfl
 | 15, _, _ => by kernel_rfl
 | 16, _, _ => by kernel_rfl
 | 17, _, _ => by kernel_rfl
 | n + 18, _, h => absurd h (by omega)
theorem s44 (m:Msg) (h:m.Fits):g44 m.kind m.view m.frm m.to m.round m.region m.slot m.op.core m.op.op m.op.part m.err m.settled m.req.id.core m.req.id.op m.req.id.part m.req.call.kind m.req.call.slot m.req.call.dest m.req.call.core m.req.call.mask m.req.call.object m.req.call.bits m.req.call.level m.req.call.offset m.req.call.count m.req.call.index m.req.call.addr m.req.region m.req.width m.req.src.id.core m.req.src.id.op m.req.src.id.part (Zb m.req.src.path) m.req.src.cap.kind m.req.src.cap.base m.req.src.cap.bits m.req.src.cap.rights m.req.src.cap.width m.req.src.cap.level m.req.src.cap.device (Zb m.ids) (m.nodes.map ZP) (Za m.cores) (m.moves.map Z4) m.base m.next.number (Za m.next.members) (Za m.next.owners) (m.state.slots.map Zf) (m.state.pending.map Zt) (m.state.marks.map Zj) (m.state.answers.map ZF) (m.state.entries.map Zd) (Zb m.state.commits) m.report.core m.report.view.number (Za m.report.view.members) (Za m.report.view.owners) (m.report.state.slots.map Zf) (m.report.state.pending.map Zt) (m.report.state.marks.map Zj) (m.report.state.answers.map ZF) (m.report.state.entries.map Zd) (Zb m.report.state.commits) m.report.ready m.report.next.number (Za m.report.next.members) (Za m.report.next.owners) (m.report.proposal.slots.map Zf) (m.report.proposal.pending.map Zt) (m.report.proposal.marks.map Zj) (m.report.proposal.answers.map ZF) (m.report.proposal.entries.map Zd) (Zb m.report.proposal.commits)=some (K0 m):=by
 rw [ZtB]
 unfold K0 headOk
 by_cases hk:1≤m.kind∧m.kind≤17
 ·obtain ⟨n,hn⟩:∃ n:Nat,m.kind=n:=⟨m.kind.toNat,by omega⟩
  have h1:kindOk m.kind=true:=decide_eq_true hk
  have e19:g75 m.kind=some (fc (kf n),true):=by rw [hn]; exact s75 n (by omega) (by omega)
  rw [e19,Option.bind_some,s76,s77,s77,Option.bind_some,Option.bind_some,Option.bind_some,h1]
  have hlen:(fc (kf n)).length=(kf n).length:=List.length_map _
  have hsz:(kf n).length < 2 ^ 63:=by
   have:(kf n).length≤5:=by unfold kf; split <;> simp
   omega
  have e:=l44 m h (kf n) (ZxO n) hsz (kf n).length 0 Zw m (by omega) (by have:=JA hsz; omega) h.req
  rw [List.drop_zero,Zq2 m n (by omega) (by omega)] at e
  have hk2:m.kind.toNat=n:=by omega
  rw [hk2]
  dsimp only
  rw [hlen]
  refine (if_neg (by simp)).trans ?_
  cases Ju m.view <;> cases Zs m.frm <;> cases Zs m.to <;> first | rfl | exact e
 ·have h1:kindOk m.kind=false:=decide_eq_false hk
  rw [ZAU _ hk,Option.bind_some,h1]
  rfl
end Go.Proofs.YthdihcchfjlgkaaGreat
end

section
namespace Go.Proofs.YthdihcchfjlgkaaGreat
open Go Go.AM
set_option linter.unusedSimpArgs false
set_option linter.unusedVariables false
set_option maxRecDepth 100000
theorem ZpA (a b:Int):cop .eql a b=decide (a=b):=rfl
def at2 {α:Type} (q:α→α→Bool) (l m:List α) (i:Nat):Bool:=match l[i]?,m[i]? with | some a,some b=>q a b | _,_=>true
def Ya {α:Type} (q:α→α→Bool) (l m:List α):Bool:=decide (l.length=m.length)&&(List.range' 0 l.length).all (at2 q l m)
theorem ZaF {α:Type} (q:α→α→Bool) {l m:List α} {i:Nat} (h:i < l.length) (h':i < m.length):at2 q l m i=q l[i] m[i]:=by
 unfold at2
 rw [List.getElem?_eq_getElem h,List.getElem?_eq_getElem h']
def ZaG (a b:Req):Bool:=decide (a.id.core=b.id.core∧a.id.op=b.id.op∧a.id.part=b.id.part)&&decide (a.call.kind=b.call.kind∧a.call.slot=b.call.slot∧a.call.dest=b.call.dest∧a.call.core=b.call.core∧a.call.mask=b.call.mask∧a.call.object=b.call.object∧a.call.bits=b.call.bits∧a.call.level=b.call.level∧a.call.offset=b.call.offset∧a.call.count=b.call.count∧a.call.index=b.call.index∧a.call.addr=b.call.addr)&&decide (a.region=b.region)&&decide (a.width=b.width)&&KJ a.src b.src
theorem s64 (a b:Req) (ha:a.src.path.length < 2 ^ 63) (hb:b.src.path.length < 2 ^ 63):g64 a.id.core a.id.op a.id.part a.call.kind a.call.slot a.call.dest a.call.core a.call.mask a.call.object a.call.bits a.call.level a.call.offset a.call.count a.call.index a.call.addr a.region a.width a.src.id.core a.src.id.op a.src.id.part (Zb a.src.path) a.src.cap.kind a.src.cap.base a.src.cap.bits a.src.cap.rights a.src.cap.width a.src.cap.level a.src.cap.device b.id.core b.id.op b.id.part b.call.kind b.call.slot b.call.dest b.call.core b.call.mask b.call.object b.call.bits b.call.level b.call.offset b.call.count b.call.index b.call.addr b.region b.width b.src.id.core b.src.id.op b.src.id.part (Zb b.src.path) b.src.cap.kind b.src.cap.base b.src.cap.bits b.src.cap.rights b.src.cap.width b.src.cap.level b.src.cap.device=some (ZaG a b):=by
 rw [Ztr,ZtR _ _ ha hb,Option.bind_some]
 unfold ZaG
 repeat' split
 all_goals (refine congrArg some ?_; rw [Zh]; simp only [CQ] at * <;> grind)
theorem ZAq (l m:List Yr) (hl:l.length < 2 ^ 63) (pl:∀ x∈l,x.path.length < 2 ^ 63) (pm:∀ x∈m,x.path.length < 2 ^ 63):Zxv (l.map ZP) (m.map ZP)=some (Ya KJ l m):=by
 rw [Zr0,List.length_map,List.length_map]
 unfold Ya
 by_cases h:l.length=m.length
 ·rw [if_neg (show ¬ (cop .neq (l.length:Int) (m.length:Int))=true by simp only [CQ]; omega),decide_eq_true h,Bool.true_and]
  have:=ZO (F:=fun k i=>Zho k (l.map ZP) (m.map ZP) i) (n:=l.length) (fin:=some true) (bad:=some false) (at2 KJ l m) hl 0 (by omega)
   (fun k i _ hi=>by
    have hi':i < m.length:=by omega
    refine (Zhm ..).trans ?_
    rw [List.length_map,if_pos (Z2 hi)]
    refine (Yu hi _).trans ?_
    refine (Yu hi' _).trans ?_
    rw [ZR hi hl,ZaF _ hi hi']
    generalize Zho k (l.map ZP) (m.map ZP) ((i+1:Nat):Int)=X
    try simp only [Yu hi,Yu hi',Ze3,d2,d4,d8,d16,ZtR _ _ (pl _ (List.getElem_mem hi)) (pm _ (List.getElem_mem hi')),Option.bind_some]
    skip
    repeat' split
    all_goals (simp only [ZpA,CQ] at * <;> grind))
   (fun k i hi=>by refine (Zhm ..).trans ?_; rw [List.length_map,if_neg (ZZ hi)])
  rw [Nat.sub_zero] at this
  refine Eq.trans this ?_
  cases (List.range' 0 l.length).all (at2 KJ l m) <;> rfl
 ·rw [if_pos (show (cop .neq (l.length:Int) (m.length:Int))=true by simp only [CQ]; omega),decide_eq_false h]
  rfl
def Zbd:Int→Int→Bool:=fun a b=>decide (a=b)
theorem Zx0 (l m:List Int) (hl:l.length < 2 ^ 63):Zto (Za l) (Za m)=some (Ya Zbd l m):=by
 rw [Zro,ZN,ZN]
 unfold Ya
 by_cases h:l.length=m.length
 ·rw [if_neg (show ¬ (cop .neq (l.length:Int) (m.length:Int))=true by simp only [CQ]; omega),decide_eq_true h,Bool.true_and]
  have:=ZO (F:=fun k i=>Zgk k (Za l) (Za m) i) (n:=l.length) (fin:=some true) (bad:=some false) (at2 Zbd l m) hl 0 (by omega)
   (fun k i _ hi=>by
    have hi':i < m.length:=by omega
    refine (ZgH ..).trans ?_
    rw [ZN,if_pos (Z2 hi)]
    refine (Z0 hi _).trans ?_
    refine (Z0 hi' _).trans ?_
    rw [ZR hi hl,ZaF _ hi hi']
    generalize Zgk k (Za l) (Za m) ((i+1:Nat):Int)=X
    try simp only [Z0 hi,Z0 hi',d2,d4,d8,d16,Option.bind_some]
    generalize l[i]=a
    generalize m[i]=b
    unfold Zbd
    repeat' split
    all_goals (simp only [ZpA,CQ] at * <;> grind))
   (fun k i hi=>by refine (ZgH ..).trans ?_; rw [ZN,if_neg (ZZ hi)])
  rw [Nat.sub_zero] at this
  refine Eq.trans this ?_
  cases (List.range' 0 l.length).all (at2 Zbd l m) <;> rfl
 ·rw [if_pos (show (cop .neq (l.length:Int) (m.length:Int))=true by simp only [CQ]; omega),decide_eq_false h]
  rfl
def WR:ZhG→ZhG→Bool:=fun a b=>decide (a.region=b.region∧a.to=b.to)
theorem ZBN (l m:List ZhG) (hl:l.length < 2 ^ 63):Zyb (l.map Z4) (m.map Z4)=some (Ya WR l m):=by
 rw [Zrh,List.length_map,List.length_map]
 unfold Ya
 by_cases h:l.length=m.length
 ·rw [if_neg (show ¬ (cop .neq (l.length:Int) (m.length:Int))=true by simp only [CQ]; omega),decide_eq_true h,Bool.true_and]
  have:=ZO (F:=fun k i=>ZgE k (l.map Z4) (m.map Z4) i) (n:=l.length) (fin:=some true) (bad:=some false) (at2 WR l m) hl 0 (by omega)
   (fun k i _ hi=>by
    have hi':i < m.length:=by omega
    refine (ZhC ..).trans ?_
    rw [List.length_map,if_pos (Z2 hi)]
    refine (YT hi _).trans ?_
    refine (YT hi' _).trans ?_
    rw [ZR hi hl,ZaF _ hi hi']
    generalize ZgE k (l.map Z4) (m.map Z4) ((i+1:Nat):Int)=X
    try simp only [YT hi,YT hi',d2,d4,d8,d16,Option.bind_some]
    generalize l[i]=a
    generalize m[i]=b
    unfold WR
    repeat' split
    all_goals (simp only [ZpA,CQ] at * <;> grind))
   (fun k i hi=>by refine (ZhC ..).trans ?_; rw [List.length_map,if_neg (ZZ hi)])
  rw [Nat.sub_zero] at this
  refine Eq.trans this ?_
  cases (List.range' 0 l.length).all (at2 WR l m) <;> rfl
 ·rw [if_pos (show (cop .neq (l.length:Int) (m.length:Int))=true by simp only [CQ]; omega),decide_eq_false h]
  rfl
def Ze5:Jh→Jh→Bool:=fun a b=>decide (a.op=b.op)&&decide (a.lock.core=b.lock.core∧a.lock.op=b.lock.op∧a.lock.part=b.lock.part)&&KJ a.node b.node
theorem s18 (l m:List Jh) (hl:l.length < 2 ^ 63) (pl:∀ x∈l,x.node.path.length < 2 ^ 63) (pm:∀ x∈m,x.node.path.length < 2 ^ 63):g18 (l.map Zf) (m.map Zf)=some (Ya Ze5 l m):=by
 rw [Zt7,List.length_map,List.length_map]
 unfold Ya
 by_cases h:l.length=m.length
 ·rw [if_neg (show ¬ (cop .neq (l.length:Int) (m.length:Int))=true by simp only [CQ]; omega),decide_eq_true h,Bool.true_and]
  have:=ZO (F:=fun k i=>ZlM k (l.map Zf) (m.map Zf) i) (n:=l.length) (fin:=some true) (bad:=some false) (at2 Ze5 l m) hl 0 (by omega)
   (fun k i _ hi=>by
    have hi':i < m.length:=by omega
    refine (Zjx ..).trans ?_
    rw [List.length_map,if_pos (Z2 hi)]
    refine (ZW hi _).trans ?_
    refine (ZW hi' _).trans ?_
    rw [ZR hi hl,ZaF _ hi hi']
    generalize ZlM k (l.map Zf) (m.map Zf) ((i+1:Nat):Int)=X
    try simp only [ZW hi,ZW hi',KV,d2,d4,d8,d16,ZtR _ _ (pl _ (List.getElem_mem hi)) (pm _ (List.getElem_mem hi')),Option.bind_some]
    generalize l[i]=a
    generalize m[i]=b
    unfold Ze5
    repeat' split
    all_goals (simp only [ZpA,CQ] at * <;> grind))
   (fun k i hi=>by refine (Zjx ..).trans ?_; rw [List.length_map,if_neg (ZZ hi)])
  rw [Nat.sub_zero] at this
  refine Eq.trans this ?_
  cases (List.range' 0 l.length).all (at2 Ze5 l m) <;> rfl
 ·rw [if_pos (show (cop .neq (l.length:Int) (m.length:Int))=true by simp only [CQ]; omega),decide_eq_false h]
  rfl
theorem s32 (l m:List Req) (hl:l.length < 2 ^ 63) (pl:∀ x∈l,x.src.path.length < 2 ^ 63) (pm:∀ x∈m,x.src.path.length < 2 ^ 63):g32 (l.map Zt) (m.map Zt)=some (Ya ZaG l m):=by
 rw [ZtN,List.length_map,List.length_map]
 unfold Ya
 by_cases h:l.length=m.length
 ·rw [if_neg (show ¬ (cop .neq (l.length:Int) (m.length:Int))=true by simp only [CQ]; omega),decide_eq_true h,Bool.true_and]
  have:=ZO (F:=fun k i=>ZlH k (l.map Zt) (m.map Zt) i) (n:=l.length) (fin:=some true) (bad:=some false) (at2 ZaG l m) hl 0 (by omega)
   (fun k i _ hi=>by
    have hi':i < m.length:=by omega
    refine (Zj9 ..).trans ?_
    rw [List.length_map,if_pos (Z2 hi)]
    refine (Jc hi _).trans ?_
    refine (Jc hi' _).trans ?_
    rw [ZR hi hl,ZaF _ hi hi']
    generalize ZlH k (l.map Zt) (m.map Zt) ((i+1:Nat):Int)=X
    try simp only [Jc hi,Jc hi',Zje,d2,d4,d8,d16,s64 _ _ (pl _ (List.getElem_mem hi)) (pm _ (List.getElem_mem hi')),Option.bind_some]
    skip
    repeat' split
    all_goals (simp only [ZpA,CQ] at * <;> grind))
   (fun k i hi=>by refine (Zj9 ..).trans ?_; rw [List.length_map,if_neg (ZZ hi)])
  rw [Nat.sub_zero] at this
  refine Eq.trans this ?_
  cases (List.range' 0 l.length).all (at2 ZaG l m) <;> rfl
 ·rw [if_pos (show (cop .neq (l.length:Int) (m.length:Int))=true by simp only [CQ]; omega),decide_eq_false h]
  rfl
def ZcQ:ZdR→ZdR→Bool:=fun a b=>decide (a.region=b.region∧a.op.core=b.op.core∧a.op.op=b.op.op∧a.op.part=b.op.part)
theorem ZBj (l m:List ZdR) (hl:l.length < 2 ^ 63):Zza (l.map Zj) (m.map Zj)=some (Ya ZcQ l m):=by
 rw [Zqp,List.length_map,List.length_map]
 unfold Ya
 by_cases h:l.length=m.length
 ·rw [if_neg (show ¬ (cop .neq (l.length:Int) (m.length:Int))=true by simp only [CQ]; omega),decide_eq_true h,Bool.true_and]
  have:=ZO (F:=fun k i=>Zhi k (l.map Zj) (m.map Zj) i) (n:=l.length) (fin:=some true) (bad:=some false) (at2 ZcQ l m) hl 0 (by omega)
   (fun k i _ hi=>by
    have hi':i < m.length:=by omega
    refine (Zg4 ..).trans ?_
    rw [List.length_map,if_pos (Z2 hi)]
    refine (J6 hi _).trans ?_
    refine (J6 hi' _).trans ?_
    rw [ZR hi hl,ZaF _ hi hi']
    generalize Zhi k (l.map Zj) (m.map Zj) ((i+1:Nat):Int)=X
    try simp only [J6 hi,J6 hi',d2,d4,d8,d16,Option.bind_some]
    generalize l[i]=a
    generalize m[i]=b
    unfold ZcQ
    repeat' split
    all_goals (simp only [ZpA,CQ] at * <;> grind))
   (fun k i hi=>by refine (Zg4 ..).trans ?_; rw [List.length_map,if_neg (ZZ hi)])
  rw [Nat.sub_zero] at this
  refine Eq.trans this ?_
  cases (List.range' 0 l.length).all (at2 ZcQ l m) <;> rfl
 ·rw [if_pos (show (cop .neq (l.length:Int) (m.length:Int))=true by simp only [CQ]; omega),decide_eq_false h]
  rfl
def Zfd:Ans→Ans→Bool:=fun a b=>decide (a.op=b.op∧a.err=b.err)
theorem s34 (l m:List Ans) (hl:l.length < 2 ^ 63):g34 (l.map ZF) (m.map ZF)=some (Ya Zfd l m):=by
 rw [Zuu,List.length_map,List.length_map]
 unfold Ya
 by_cases h:l.length=m.length
 ·rw [if_neg (show ¬ (cop .neq (l.length:Int) (m.length:Int))=true by simp only [CQ]; omega),decide_eq_true h,Bool.true_and]
  have:=ZO (F:=fun k i=>Zlt k (l.map ZF) (m.map ZF) i) (n:=l.length) (fin:=some true) (bad:=some false) (at2 Zfd l m) hl 0 (by omega)
   (fun k i _ hi=>by
    have hi':i < m.length:=by omega
    refine (Zjy ..).trans ?_
    rw [List.length_map,if_pos (Z2 hi)]
    refine (Yl hi _).trans ?_
    refine (Yl hi' _).trans ?_
    rw [ZR hi hl,ZaF _ hi hi']
    generalize Zlt k (l.map ZF) (m.map ZF) ((i+1:Nat):Int)=X
    try simp only [Yl hi,Yl hi',d2,d4,d8,d16,Option.bind_some]
    generalize l[i]=a
    generalize m[i]=b
    unfold Zfd
    repeat' split
    all_goals (simp only [ZpA,CQ] at * <;> grind))
   (fun k i hi=>by refine (Zjy ..).trans ?_; rw [List.length_map,if_neg (ZZ hi)])
  rw [Nat.sub_zero] at this
  refine Eq.trans this ?_
  cases (List.range' 0 l.length).all (at2 Zfd l m) <;> rfl
 ·rw [if_pos (show (cop .neq (l.length:Int) (m.length:Int))=true by simp only [CQ]; omega),decide_eq_false h]
  rfl
def Zh6:ZJ→ZJ→Bool:=fun a b=>decide (a.core=b.core)&&decide (a.slot=b.slot)&&KJ a.node b.node
theorem ZAn (l m:List ZJ) (hl:l.length < 2 ^ 63) (pl:∀ x∈l,x.node.path.length < 2 ^ 63) (pm:∀ x∈m,x.node.path.length < 2 ^ 63):ZyX (l.map Zd) (m.map Zd)=some (Ya Zh6 l m):=by
 rw [Zq4,List.length_map,List.length_map]
 unfold Ya
 by_cases h:l.length=m.length
 ·rw [if_neg (show ¬ (cop .neq (l.length:Int) (m.length:Int))=true by simp only [CQ]; omega),decide_eq_true h,Bool.true_and]
  have:=ZO (F:=fun k i=>Zgn k (l.map Zd) (m.map Zd) i) (n:=l.length) (fin:=some true) (bad:=some false) (at2 Zh6 l m) hl 0 (by omega)
   (fun k i _ hi=>by
    have hi':i < m.length:=by omega
    refine (ZgD ..).trans ?_
    rw [List.length_map,if_pos (Z2 hi)]
    refine (Zu hi _).trans ?_
    refine (Zu hi' _).trans ?_
    rw [ZR hi hl,ZaF _ hi hi']
    generalize Zgn k (l.map Zd) (m.map Zd) ((i+1:Nat):Int)=X
    try simp only [Zu hi,Zu hi',Yf,d2,d4,d8,d16,ZtR _ _ (pl _ (List.getElem_mem hi)) (pm _ (List.getElem_mem hi')),Option.bind_some]
    generalize l[i]=a
    generalize m[i]=b
    unfold Zh6
    repeat' split
    all_goals (simp only [ZpA,CQ] at * <;> grind))
   (fun k i hi=>by refine (ZgD ..).trans ?_; rw [List.length_map,if_neg (ZZ hi)])
  rw [Nat.sub_zero] at this
  refine Eq.trans this ?_
  cases (List.range' 0 l.length).all (at2 Zh6 l m) <;> rfl
 ·rw [if_pos (show (cop .neq (l.length:Int) (m.length:Int))=true by simp only [CQ]; omega),decide_eq_false h]
  rfl
def ZdN (a b:ZdT):Bool:=cop .eql a.number b.number&&(Ya Zbd a.members b.members&&Ya Zbd a.owners b.owners)
def WH (a b:Kg):Bool:=Ya Ze5 a.slots b.slots&&(Ya ZaG a.pending b.pending&&(Ya ZcQ a.marks b.marks&&(Ya Zfd a.answers b.answers&&(Ya Zh6 a.entries b.entries&&decide (a.commits=b.commits)))))
def VS (a b:Yv):Bool:=cop .eql a.core b.core&&(ZdN a.view b.view&&(WH a.state b.state&&((a.ready == b.ready)&&(ZdN a.next b.next&&WH a.proposal b.proposal))))
theorem Zxr (a b:ZdT) (h:a.Fits):ZuR a.number (Za a.members) (Za a.owners) b.number (Za b.members) (Za b.owners)=some (ZdN a b):=by
 rw [Zq3,Zx0 _ _ h.members,Zx0 _ _ h.owners]
 exact Jr _ (Jr _ rfl)
theorem ZyK (a b:Kg) (h:a.Fits) (h':b.Fits):Ztx (a.slots.map Zf) (a.pending.map Zt) (a.marks.map Zj) (a.answers.map ZF) (a.entries.map Zd) (Zb a.commits) (b.slots.map Zf) (b.pending.map Zt) (b.marks.map Zj) (b.answers.map ZF) (b.entries.map Zd) (Zb b.commits)=some (WH a b):=by
 rw [Zq5,s18 _ _ h.slots h.slot h'.slot,s32 _ _ h.pending h.req h'.req,ZBj _ _ h.marks,s34 _ _ h.answers,ZAn _ _ h.entries h.entry h'.entry,s83 _ _ h.commits h'.commits]
 exact Jr _ (Jr _ (Jr _ (Jr _ (Jr _ rfl))))
theorem ZAE (a b:Yv) (h:a.Fits) (h':b.Fits):ZzB a.core a.view.number (Za a.view.members) (Za a.view.owners) (a.state.slots.map Zf) (a.state.pending.map Zt) (a.state.marks.map Zj) (a.state.answers.map ZF) (a.state.entries.map Zd) (Zb a.state.commits) a.ready a.next.number (Za a.next.members) (Za a.next.owners) (a.proposal.slots.map Zf) (a.proposal.pending.map Zt) (a.proposal.marks.map Zj) (a.proposal.answers.map ZF) (a.proposal.entries.map Zd) (Zb a.proposal.commits) b.core b.view.number (Za b.view.members) (Za b.view.owners) (b.state.slots.map Zf) (b.state.pending.map Zt) (b.state.marks.map Zj) (b.state.answers.map ZF) (b.state.entries.map Zd) (Zb b.state.commits) b.ready b.next.number (Za b.next.members) (Za b.next.owners) (b.proposal.slots.map Zf) (b.proposal.pending.map Zt) (b.proposal.marks.map Zj) (b.proposal.answers.map ZF) (b.proposal.entries.map Zd) (Zb b.proposal.commits)=some (VS a b):=by
 rw [Zsm,Zxr _ _ h.view,ZyK _ _ h.state h'.state,Zxr _ _ h.next,ZyK _ _ h.proposal h'.proposal]
 exact Jr _ (Jr _ (Jr _ (Jr _ (Jr _ rfl))))
theorem nif (c:Bool) {y:Bool} {x:Option Bool} (h:x=some y):(if c=true then some false else x)=some (!c&&y):=by cases c <;> simp [h]
def ZkZ (a b:Msg):Bool:=!cop .neq a.kind b.kind&&(!cop .neq a.view b.view&&(!cop .neq a.frm b.frm&&(!cop .neq a.to b.to&&(!cop .neq a.round b.round&&(!cop .neq a.region b.region&&(!cop .neq a.slot b.slot&&(!(!((cop .eql a.op.core b.op.core)&&((cop .eql a.op.op b.op.op)&&((cop .eql a.op.part b.op.part)&&true))))&&(!cop .neq a.err b.err&&(!(!(a.settled == b.settled))&&(!cop .neq a.base b.base&&(ZaG a.req b.req&&(decide (a.ids=b.ids)&&(Ya KJ a.nodes b.nodes&&(Ya Zbd a.cores b.cores&&(Ya WR a.moves b.moves&&(ZdN a.next b.next&&(WH a.state b.state&&VS a.report b.report)))))))))))))))))
theorem s65 (a b:Msg) (h:a.Fits) (h':b.Fits):g65 a.kind a.view a.frm a.to a.round a.region a.slot a.op.core a.op.op a.op.part a.err a.settled a.req.id.core a.req.id.op a.req.id.part a.req.call.kind a.req.call.slot a.req.call.dest a.req.call.core a.req.call.mask a.req.call.object a.req.call.bits a.req.call.level a.req.call.offset a.req.call.count a.req.call.index a.req.call.addr a.req.region a.req.width a.req.src.id.core a.req.src.id.op a.req.src.id.part (Zb a.req.src.path) a.req.src.cap.kind a.req.src.cap.base a.req.src.cap.bits a.req.src.cap.rights a.req.src.cap.width a.req.src.cap.level a.req.src.cap.device (Zb a.ids) (a.nodes.map ZP) (Za a.cores) (a.moves.map Z4) a.base a.next.number (Za a.next.members) (Za a.next.owners) (a.state.slots.map Zf) (a.state.pending.map Zt) (a.state.marks.map Zj) (a.state.answers.map ZF) (a.state.entries.map Zd) (Zb a.state.commits) a.report.core a.report.view.number (Za a.report.view.members) (Za a.report.view.owners) (a.report.state.slots.map Zf) (a.report.state.pending.map Zt) (a.report.state.marks.map Zj) (a.report.state.answers.map ZF) (a.report.state.entries.map Zd) (Zb a.report.state.commits) a.report.ready a.report.next.number (Za a.report.next.members) (Za a.report.next.owners) (a.report.proposal.slots.map Zf) (a.report.proposal.pending.map Zt) (a.report.proposal.marks.map Zj) (a.report.proposal.answers.map ZF) (a.report.proposal.entries.map Zd) (Zb a.report.proposal.commits) b.kind b.view b.frm b.to b.round b.region b.slot b.op.core b.op.op b.op.part b.err b.settled b.req.id.core b.req.id.op b.req.id.part b.req.call.kind b.req.call.slot b.req.call.dest b.req.call.core b.req.call.mask b.req.call.object b.req.call.bits b.req.call.level b.req.call.offset b.req.call.count b.req.call.index b.req.call.addr b.req.region b.req.width b.req.src.id.core b.req.src.id.op b.req.src.id.part (Zb b.req.src.path) b.req.src.cap.kind b.req.src.cap.base b.req.src.cap.bits b.req.src.cap.rights b.req.src.cap.width b.req.src.cap.level b.req.src.cap.device (Zb b.ids) (b.nodes.map ZP) (Za b.cores) (b.moves.map Z4) b.base b.next.number (Za b.next.members) (Za b.next.owners) (b.state.slots.map Zf) (b.state.pending.map Zt) (b.state.marks.map Zj) (b.state.answers.map ZF) (b.state.entries.map Zd) (Zb b.state.commits) b.report.core b.report.view.number (Za b.report.view.members) (Za b.report.view.owners) (b.report.state.slots.map Zf) (b.report.state.pending.map Zt) (b.report.state.marks.map Zj) (b.report.state.answers.map ZF) (b.report.state.entries.map Zd) (Zb b.report.state.commits) b.report.ready b.report.next.number (Za b.report.next.members) (Za b.report.next.owners) (b.report.proposal.slots.map Zf) (b.report.proposal.pending.map Zt) (b.report.proposal.marks.map Zj) (b.report.proposal.answers.map ZF) (b.report.proposal.entries.map Zd) (Zb b.report.proposal.commits)=some (ZkZ a b):=by
 rw [ZvF,s64 _ _ h.req h'.req,s83 _ _ h.ids h'.ids,ZAq _ _ h.nodes h.node h'.node,Zx0 _ _ h.cores,ZBN _ _ h.moves,Zxr _ _ h.next,ZyK _ _ h.state h'.state,ZAE _ _ h.report h'.report]
 exact nif _ (nif _ (nif _ (nif _ (nif _ (nif _ (nif _ (nif _ (nif _ (nif _ (nif _ (Jr _ (Jr _ (Jr _ (Jr _ (Jr _ (Jr _ (Jr _ (rfl))))))))))))))))))
theorem Jl {α:Type} (q:α→α→Bool) (hq:∀ a,q a a=true) (l:List α):Ya q l l=true:=by
 unfold Ya
 rw [decide_eq_true rfl,Bool.true_and,List.all_eq_true]
 intro i hi
 have hi':i < l.length:=by simpa [List.mem_range'] using hi
 rw [ZaF q hi' hi',hq]
theorem Ym {α:Type} (q:α→α→Bool) (l:List α):Ya q l []=decide (l.length=0):=by
 unfold Ya
 cases l with
 | nil => rfl
 | cons a r => simp
theorem Ko (a:Yr):KJ a a=true:=by simp [KJ]
theorem Wu (a:Req):ZaG a a=true:=by simp [ZaG,Ko]
theorem Zlb (a:Req):ZaG a Z9=ZsM a:=by
 have:decide (a.id.core=Z9.id.core∧a.id.op=Z9.id.op∧a.id.part=Z9.id.part)=decide (a.id=zid):=by
  rw [Zh,decide_eq_true_eq,decide_eq_true_eq]
  constructor
  ·rintro ⟨h1,h2,h3⟩
   rcases h:a.id with ⟨x,y,z⟩
   rw [h] at h1 h2 h3
   simp only [Z9,zid] at h1 h2 h3
   subst h1 h2 h3
   rfl
  ·intro h; rw [h]; exact ⟨rfl,rfl,rfl⟩
 unfold ZaG ZsM
 rw [this]
 rfl
theorem Zbl (a:ZdT):ZdN a a=true:=by
 simp [ZdN,Jl Zbd (fun a=>by simp [Zbd]),cop]
theorem Zbm (a:ZdT):ZdN a ZH=Zd2 a:=by
 unfold ZdN Zd2
 rw [show ZH.members = [] from rfl,show ZH.owners = [] from rfl,Ym,Ym,Bool.and_assoc]
 rfl
theorem WV (a:Kg):WH a a=true:=by
 simp [WH,Jl Ze5 (fun a=>by simp [Ze5,Ko]),Jl ZaG Wu,Jl ZcQ (fun a=>by simp [ZcQ]),Jl Zfd (fun a=>by simp [Zfd]),Jl Zh6 (fun a=>by simp [Zh6,Ko])]
theorem Zab (a:Kg):WH a Zi=ZaN a:=by
 have:decide (a.commits=([] : List Id))=decide (a.commits.length=0):=by
  rw [Zh,decide_eq_true_eq,decide_eq_true_eq,List.length_eq_zero_iff]
 unfold WH ZaN
 rw [show Zi.slots = [] from rfl,show Zi.pending = [] from rfl,show Zi.marks = [] from rfl,show Zi.answers = [] from rfl,show Zi.entries = [] from rfl,show Zi.commits = [] from rfl,Ym,Ym,Ym,Ym,Ym,this]
 simp only [Bool.and_assoc]
theorem ZbM (a:Yv):VS a a=true:=by simp [VS,Zbl,WV,cop]
theorem ZgO (a:Yv):VS a Zm=ZbB a:=by
 unfold VS ZbB
 rw [show Zm.view=ZH from rfl,show Zm.next=ZH from rfl,show Zm.state=Zi from rfl,show Zm.proposal=Zi from rfl,Zbm,Zbm,Zab,Zab]
 have e:(a.ready == Zm.ready) = !a.ready:=by cases a.ready <;> rfl
 rw [e]
 simp only [Bool.and_assoc]
 rfl
theorem Zkk (a:Msg):ZkZ a a=true:=by
 simp [ZkZ,Wu,Jl KJ Ko,Jl Zbd (fun a=>by simp [Zbd]),Jl WR (fun a=>by simp [WR]),Zbl,WV,ZbM,cop]
end Go.Proofs.YthdihcchfjlgkaaGreat
end

section
namespace Go.Proofs.YthdihcchfjlgkaaGreat
open Go Go.AM
set_option linter.unusedSimpArgs false
set_option linter.unusedVariables false
set_option maxRecDepth 100000
theorem l60 (m x:Msg) (h:m.Fits) (hx:x.Fits):∀ (j i fuel:Nat) (ok:Bool),m.nodes.length=i+j→j < fuel→
  Ys fuel m.kind m.view m.frm m.to m.round m.region m.slot m.op.core m.op.op m.op.part m.err m.settled m.req.id.core m.req.id.op m.req.id.part m.req.call.kind m.req.call.slot m.req.call.dest m.req.call.core m.req.call.mask m.req.call.object m.req.call.bits m.req.call.level m.req.call.offset m.req.call.count m.req.call.index m.req.call.addr m.req.region m.req.width m.req.src.id.core m.req.src.id.op m.req.src.id.part (Zb m.req.src.path) m.req.src.cap.kind m.req.src.cap.base m.req.src.cap.bits m.req.src.cap.rights m.req.src.cap.width m.req.src.cap.level m.req.src.cap.device (Zb m.ids) (m.nodes.map ZP) (Za m.cores) (m.moves.map Z4) m.base m.next.number (Za m.next.members) (Za m.next.owners) (m.state.slots.map Zf) (m.state.pending.map Zt) (m.state.marks.map Zj) (m.state.answers.map ZF) (m.state.entries.map Zd) (Zb m.state.commits) m.report.core m.report.view.number (Za m.report.view.members) (Za m.report.view.owners) (m.report.state.slots.map Zf) (m.report.state.pending.map Zt) (m.report.state.marks.map Zj) (m.report.state.answers.map ZF) (m.report.state.entries.map Zd) (Zb m.report.state.commits) m.report.ready m.report.next.number (Za m.report.next.members) (Za m.report.next.owners) (m.report.proposal.slots.map Zf) (m.report.proposal.pending.map Zt) (m.report.proposal.marks.map Zj) (m.report.proposal.answers.map ZF) (m.report.proposal.entries.map Zd) (Zb m.report.proposal.commits) x.kind x.view x.frm x.to x.round x.region x.slot x.op.core x.op.op x.op.part x.err x.settled x.req.id.core x.req.id.op x.req.id.part x.req.call.kind x.req.call.slot x.req.call.dest x.req.call.core x.req.call.mask x.req.call.object x.req.call.bits x.req.call.level x.req.call.offset x.req.call.count x.req.call.index x.req.call.addr x.req.region x.req.width x.req.src.id.core x.req.src.id.op x.req.src.id.part (Zb x.req.src.path) x.req.src.cap.kind x.req.src.cap.base x.req.src.cap.bits x.req.src.cap.rights x.req.src.cap.width x.req.src.cap.level x.req.src.cap.device (Zb x.ids) (x.nodes.map ZP) (Za x.cores) (x.moves.map Z4) x.base x.next.number (Za x.next.members) (Za x.next.owners) (x.state.slots.map Zf) (x.state.pending.map Zt) (x.state.marks.map Zj) (x.state.answers.map ZF) (x.state.entries.map Zd) (Zb x.state.commits) x.report.core x.report.view.number (Za x.report.view.members) (Za x.report.view.owners) (x.report.state.slots.map Zf) (x.report.state.pending.map Zt) (x.report.state.marks.map Zj) (x.report.state.answers.map ZF) (x.report.state.entries.map Zd) (Zb x.report.state.commits) x.report.ready x.report.next.number (Za x.report.next.members) (Za x.report.next.owners) (x.report.proposal.slots.map Zf) (x.report.proposal.pending.map Zt) (x.report.proposal.marks.map Zj) (x.report.proposal.answers.map ZF) (x.report.proposal.entries.map Zd) (Zb x.report.proposal.commits) ok (i:Int)=some (ok&&((m.nodes.drop i).all ZK&&(Z5 m.region&&ZkZ m x))):=by
 intro j
 induction j with
 | zero =>
  intro i fuel ok hij hf
  obtain ⟨f,rfl⟩:∃ f,fuel=f+1:=⟨fuel - 1,by omega⟩
  refine (Zjg ..).trans ?_
  rw [List.length_map,if_neg (ZZ (by omega)),List.drop_of_length_le (by omega)]
  cases ok with
  | false => rfl
  | true =>
   rw [if_pos rfl,Zv2,Option.bind_some,s65 m x h hx,Option.bind_some]
   cases Z5 m.region <;> rfl
 | succ j ih =>
  intro i fuel ok hij hf
  obtain ⟨f,rfl⟩:∃ f,fuel=f+1:=⟨fuel - 1,by omega⟩
  have hi:i < m.nodes.length:=by omega
  refine (Zjg ..).trans ?_
  rw [List.length_map,if_pos (Z2 hi)]
  cases ok with
  | false => rfl
  | true =>
   rw [if_pos rfl]
   refine (Yu hi _).trans ?_
   simp only [Ze3,d2,d4,d8,d16]
   rw [s93 _ (h.node _ (List.getElem_mem hi)),Option.bind_some,ZR hi h.nodes,ih (i+1) f _ (by omega) (by omega),List.drop_eq_getElem_cons hi,List.all_cons]
   cases ZK m.nodes[i] <;> rfl
theorem kne {a b:Int} (h:a≠b):¬ (cop .eql a b=true):=by simp only [CQ]; exact h
theorem keq {a b:Int} (h:a=b):cop .eql a b=true:=by simp only [CQ]; exact h
@[reducible] noncomputable def G10 (m:Msg):=g60 m.kind m.view m.frm m.to m.round m.region m.slot m.op.core m.op.op m.op.part m.err m.settled m.req.id.core m.req.id.op m.req.id.part m.req.call.kind m.req.call.slot m.req.call.dest m.req.call.core m.req.call.mask m.req.call.object m.req.call.bits m.req.call.level m.req.call.offset m.req.call.count m.req.call.index m.req.call.addr m.req.region m.req.width m.req.src.id.core m.req.src.id.op m.req.src.id.part (Zb m.req.src.path) m.req.src.cap.kind m.req.src.cap.base m.req.src.cap.bits m.req.src.cap.rights m.req.src.cap.width m.req.src.cap.level m.req.src.cap.device (Zb m.ids) (m.nodes.map ZP) (Za m.cores) (m.moves.map Z4) m.base m.next.number (Za m.next.members) (Za m.next.owners) (m.state.slots.map Zf) (m.state.pending.map Zt) (m.state.marks.map Zj) (m.state.answers.map ZF) (m.state.entries.map Zd) (Zb m.state.commits) m.report.core m.report.view.number (Za m.report.view.members) (Za m.report.view.owners) (m.report.state.slots.map Zf) (m.report.state.pending.map Zt) (m.report.state.marks.map Zj) (m.report.state.answers.map ZF) (m.report.state.entries.map Zd) (Zb m.report.state.commits) m.report.ready m.report.next.number (Za m.report.next.members) (Za m.report.next.owners) (m.report.proposal.slots.map Zf) (m.report.proposal.pending.map Zt) (m.report.proposal.marks.map Zj) (m.report.proposal.answers.map ZF) (m.report.proposal.entries.map Zd) (Zb m.report.proposal.commits)
@[reducible] noncomputable def G10L (m:Msg):=Ys Zw m.kind m.view m.frm m.to m.round m.region m.slot m.op.core m.op.op m.op.part m.err m.settled m.req.id.core m.req.id.op m.req.id.part m.req.call.kind m.req.call.slot m.req.call.dest m.req.call.core m.req.call.mask m.req.call.object m.req.call.bits m.req.call.level m.req.call.offset m.req.call.count m.req.call.index m.req.call.addr m.req.region m.req.width m.req.src.id.core m.req.src.id.op m.req.src.id.part (Zb m.req.src.path) m.req.src.cap.kind m.req.src.cap.base m.req.src.cap.bits m.req.src.cap.rights m.req.src.cap.width m.req.src.cap.level m.req.src.cap.device (Zb m.ids) (m.nodes.map ZP) (Za m.cores) (m.moves.map Z4) m.base m.next.number (Za m.next.members) (Za m.next.owners) (m.state.slots.map Zf) (m.state.pending.map Zt) (m.state.marks.map Zj) (m.state.answers.map ZF) (m.state.entries.map Zd) (Zb m.state.commits) m.report.core m.report.view.number (Za m.report.view.members) (Za m.report.view.owners) (m.report.state.slots.map Zf) (m.report.state.pending.map Zt) (m.report.state.marks.map Zj) (m.report.state.answers.map ZF) (m.report.state.entries.map Zd) (Zb m.report.state.commits) m.report.ready m.report.next.number (Za m.report.next.members) (Za m.report.next.owners) (m.report.proposal.slots.map Zf) (m.report.proposal.pending.map Zt) (m.report.proposal.marks.map Zj) (m.report.proposal.answers.map ZF) (m.report.proposal.entries.map Zd) (Zb m.report.proposal.commits)
def sel (b:Nat→Bool) (m:Msg):Msg:=⟨m.kind,m.view,m.frm,m.to,if b 8=true then m.round else 0,if b 0=true then m.region else 0,if b 6=true then m.slot else 0,if b 2=true then m.op else zid,if b 3=true then m.err else 0,if b 4=true then m.settled else false,if b 1=true then m.req else Z9,if b 7=true then m.ids else [],if b 5=true then m.nodes else [],if b 9=true then m.cores else [],if b 14=true then m.moves else [],if b 11=true then m.base else 0,if b 12=true then m.next else ZH,if b 13=true then m.state else Zi,if b 10=true then m.report else Zm⟩
theorem JF (b:Nat→Bool) {m:Msg} (h:m.Fits):(sel b m).Fits:=by
 refine ⟨?_,?_,?_,?_,?_,?_,?_,?_,?_⟩
 ·show (if b 1=true then m.req else Z9).src.path.length < 2 ^ 63
  cases b 1 <;> first | exact h.req | (show ([] : List Id).length < 2 ^ 63; simp)
 ·show (if b 7=true then m.ids else []).length < 2 ^ 63
  cases b 7 <;> first | exact h.ids | (show ([] : List Id).length < 2 ^ 63; simp)
 ·show (if b 5=true then m.nodes else []).length < 2 ^ 63
  cases b 5 <;> first | exact h.nodes | (show ([] : List Yr).length < 2 ^ 63; simp)
 ·show ∀ x∈(if b 5=true then m.nodes else []),x.path.length < 2 ^ 63
  cases b 5 <;> first | exact h.node | (intro x hx; cases hx)
 ·show (if b 9=true then m.cores else []).length < 2 ^ 63
  cases b 9 <;> first | exact h.cores | (show ([] : List Int).length < 2 ^ 63; simp)
 ·show (if b 14=true then m.moves else []).length < 2 ^ 63
  cases b 14 <;> first | exact h.moves | (show ([] : List ZhG).length < 2 ^ 63; simp)
 ·show (if b 12=true then m.next else ZH).Fits
  cases b 12 <;> first | exact h.next | exact ⟨by simp [ZH],by simp [ZH]⟩
 ·show (if b 13=true then m.state else Zi).Fits
  cases b 13 <;> first | exact h.state | exact ⟨by simp [Zi],by simp [Zi],by simp [Zi],by simp [Zi],by simp [Zi],by simp [Zi],by simp [Zi],by simp [Zi],by simp [Zi]⟩
 ·show (if b 10=true then m.report else Zm).Fits
  cases b 10 <;> first | exact h.report | exact ⟨⟨by simp [Zm,ZH],by simp [Zm,ZH]⟩,⟨by simp [Zm,Zi],by simp [Zm,Zi],by simp [Zm,Zi],by simp [Zm,Zi],by simp [Zm,Zi],by simp [Zm,Zi],by simp [Zm,Zi],by simp [Zm,Zi],by simp [Zm,Zi]⟩,⟨by simp [Zm,ZH],by simp [Zm,ZH]⟩,⟨by simp [Zm,Zi],by simp [Zm,Zi],by simp [Zm,Zi],by simp [Zm,Zi],by simp [Zm,Zi],by simp [Zm,Zi],by simp [Zm,Zi],by simp [Zm,Zi],by simp [Zm,Zi]⟩⟩
theorem JI (b:Nat→Bool) (m:Msg):ZkZ m (sel b m)=(List.range 15).all (fun g=>b g||zf m g):=by
 have k0:(!cop .neq m.kind (sel b m).kind)=true:=by simp [sel,cop]
 have k1:(!cop .neq m.view (sel b m).view)=true:=by simp [sel,cop]
 have k2:(!cop .neq m.frm (sel b m).frm)=true:=by simp [sel,cop]
 have k3:(!cop .neq m.to (sel b m).to)=true:=by simp [sel,cop]
 have e8:(!cop .neq m.round (sel b m).round)=(b 8||zf m 8):=by
  show (!cop .neq m.round (if b 8=true then m.round else 0))=(b 8||decide (m.round=0))
  cases b 8 with
  | true => simp [cop]
  | false => rw [Zh]; simp [cop]
 have e0:(!cop .neq m.region (sel b m).region)=(b 0||zf m 0):=by
  show (!cop .neq m.region (if b 0=true then m.region else 0))=(b 0||decide (m.region=0))
  cases b 0 with
  | true => simp [cop]
  | false => rw [Zh]; simp [cop]
 have e6:(!cop .neq m.slot (sel b m).slot)=(b 6||zf m 6):=by
  show (!cop .neq m.slot (if b 6=true then m.slot else 0))=(b 6||decide (m.slot=0))
  cases b 6 with
  | true => simp [cop]
  | false => rw [Zh]; simp [cop]
 have e3:(!cop .neq m.err (sel b m).err)=(b 3||zf m 3):=by
  show (!cop .neq m.err (if b 3=true then m.err else 0))=(b 3||decide (m.err=0))
  cases b 3 with
  | true => simp [cop]
  | false => rw [Zh]; simp [cop]
 have e11:(!cop .neq m.base (sel b m).base)=(b 11||zf m 11):=by
  show (!cop .neq m.base (if b 11=true then m.base else 0))=(b 11||decide (m.base=0))
  cases b 11 with
  | true => simp [cop]
  | false => rw [Zh]; simp [cop]
 have e2:(!(!((cop .eql m.op.core (sel b m).op.core)&&((cop .eql m.op.op (sel b m).op.op)&&((cop .eql m.op.part (sel b m).op.part)&&true)))))=(b 2||zf m 2):=by
  rw [Bool.not_not]
  show ((cop .eql m.op.core (if b 2=true then m.op else zid).core)&&((cop .eql m.op.op (if b 2=true then m.op else zid).op)&&((cop .eql m.op.part (if b 2=true then m.op else zid).part)&&true)))=(b 2||decide (m.op=zid))
  cases b 2 with
  | true => simp [cop]
  | false => rw [Zh, Bool.false_or, decide_eq_true_eq]; exact YS _ _ _
 have e4:(!(!(m.settled == (sel b m).settled)))=(b 4||zf m 4):=by
  show (!(!(m.settled == (if b 4=true then m.settled else false))))=(b 4||!m.settled)
  cases b 4 <;> cases m.settled <;> rfl
 have e1:ZaG m.req (sel b m).req=(b 1||zf m 1):=by
  show ZaG m.req (if b 1=true then m.req else Z9)=(b 1||ZsM m.req)
  cases b 1 with
  | true => exact Wu _
  | false => exact Zlb _
 have e7:decide (m.ids=(sel b m).ids)=(b 7||zf m 7):=by
  show decide (m.ids=(if b 7=true then m.ids else []))=(b 7||decide (m.ids.length=0))
  cases b 7 <;> simp
 have e5:Ya KJ m.nodes (sel b m).nodes=(b 5||zf m 5):=by
  show Ya KJ m.nodes (if b 5=true then m.nodes else [])=(b 5||decide (m.nodes.length=0))
  cases b 5 with
  | true => exact Jl _ Ko _
  | false => exact Ym _ _
 have e9:Ya Zbd m.cores (sel b m).cores=(b 9||zf m 9):=by
  show Ya Zbd m.cores (if b 9=true then m.cores else [])=(b 9||decide (m.cores.length=0))
  cases b 9 with
  | true => exact Jl _ (fun a => by simp [Zbd]) _
  | false => exact Ym _ _
 have e14:Ya WR m.moves (sel b m).moves=(b 14||zf m 14):=by
  show Ya WR m.moves (if b 14=true then m.moves else [])=(b 14||decide (m.moves.length=0))
  cases b 14 with
  | true => exact Jl _ (fun a => by simp [WR]) _
  | false => exact Ym _ _
 have e12:ZdN m.next (sel b m).next=(b 12||zf m 12):=by
  show ZdN m.next (if b 12=true then m.next else ZH)=(b 12||Zd2 m.next)
  cases b 12 with
  | true => exact Zbl _
  | false => exact Zbm _
 have e13:WH m.state (sel b m).state=(b 13||zf m 13):=by
  show WH m.state (if b 13=true then m.state else Zi)=(b 13||ZaN m.state)
  cases b 13 with
  | true => exact WV _
  | false => exact Zab _
 have e10:VS m.report (sel b m).report=(b 10||zf m 10):=by
  show VS m.report (if b 10=true then m.report else Zm)=(b 10||ZbB m.report)
  cases b 10 with
  | true => exact ZbM _
  | false => exact ZgO _
 unfold ZkZ
 rw [k0,k1,k2,k3,e8,e0,e6,e2,e3,e4,e11,e1,e7,e5,e9,e14,e12,e13,e10]
 show _=((b 0||zf m 0)&&((b 1||zf m 1)&&((b 2||zf m 2)&&((b 3||zf m 3)&&((b 4||zf m 4)&&((b 5||zf m 5)&&((b 6||zf m 6)&&((b 7||zf m 7)&&((b 8||zf m 8)&&((b 9||zf m 9)&&((b 10||zf m 10)&&((b 11||zf m 11)&&((b 12||zf m 12)&&((b 13||zf m 13)&&((b 14||zf m 14)&&true)))))))))))))))
 simp only [Bool.true_and,Bool.and_true]
 ac_rfl
theorem Zqn:Zix false=WM:=by funext i; simp [Zix]
theorem JJ {n:Nat} {m:Msg} (h:rest n m=true) (g:Nat) (hg:g < 15) (hc:(kf n).contains g=false):zf m g=true:=by
 have this:((kf n).contains g||zf m g)=true:=(List.all_eq_true.1 h) g (List.mem_range.2 hg)
 rwa [hc,Bool.false_or] at this
theorem Jj {m:Msg} (h:zf m 5=true):m.nodes.all ZK=true:=by
 have h0:m.nodes.length=0:=of_decide_eq_true h
 rw [List.length_eq_zero_iff.1 h0]; rfl
theorem Wv {m:Msg} (h:zf m 0=true):Z5 m.region=true:=by
 have h0:m.region=0:=of_decide_eq_true h
 rw [h0]; rfl
theorem ZzA (m:Msg) (h:m.Fits) (hk:m.kind=1) (h1:Ju m.view=true) (h2:Zs m.frm=true) (h3:Zs m.to=true):G10 m=some ((kf 1).all (Zg m)&&rest 1 m):=by
 have L:∀ ok,G10L m m.kind m.view m.frm m.to 0 m.region 0 0 0 0 0 false m.req.id.core m.req.id.op m.req.id.part m.req.call.kind m.req.call.slot m.req.call.dest m.req.call.core m.req.call.mask m.req.call.object m.req.call.bits m.req.call.level m.req.call.offset m.req.call.count m.req.call.index m.req.call.addr m.req.region m.req.width m.req.src.id.core m.req.src.id.op m.req.src.id.part (Zb m.req.src.path) m.req.src.cap.kind m.req.src.cap.base m.req.src.cap.bits m.req.src.cap.rights m.req.src.cap.width m.req.src.cap.level m.req.src.cap.device E0 E0 E0 E0 0 0 E0 E0 E0 E0 E0 E0 E0 E0 0 0 E0 E0 E0 E0 E0 E0 E0 E0 false 0 E0 E0 E0 E0 E0 E0 E0 E0 ok 0=some (ok&&(m.nodes.all ZK&&(Z5 m.region&&rest 1 m))):=fun ok=>by
  have q:=l60 m (sel (fun g=>(kf 1).contains g) m) h (JF _ h) m.nodes.length 0 Zw ok (by omega) (by have:=JA h.nodes; omega)
  rw [List.drop_zero,JI] at q
  exact q
 unfold G10
 rw [Yk,if_neg (show ¬ (cop .lss m.kind 1)=true by simp only [CQ]; omega),if_neg (show ¬ (cop .gtr m.kind 17)=true by simp only [CQ]; omega),s95,Option.bind_some,h1,s96,Option.bind_some,h2,s96,Option.bind_some,h3]
 rw [if_neg (show ¬ (!true)=true by decide),if_neg (show ¬ (!true)=true by decide),if_neg (show ¬ (!true)=true by decide)]
 rw [if_pos (keq hk)]
 simp only [L,s97 _ h.req,Option.bind_some]
 cases hr:rest 1 m with
 | false =>
  simp only [Bool.and_false]
  repeat' split
  all_goals rfl
 | true =>
  have hn:=Jj (JJ hr 5 (by omega) rfl)
  show _=some ((Zg m 0&&(Zg m 1&&true))&&true)
  repeat' split
  all_goals (refine congrArg some ?_; rw [Zh]; simp only [Zg,Jw,CQ] at * <;> grind)
theorem ZyD (m:Msg) (h:m.Fits) (hk:m.kind=2) (h1:Ju m.view=true) (h2:Zs m.frm=true) (h3:Zs m.to=true):G10 m=some ((kf 2).all (Zg m)&&rest 2 m):=by
 have L:∀ ok,G10L m m.kind m.view m.frm m.to 0 m.region 0 m.op.core m.op.op m.op.part m.err m.settled 0 0 0 0 0 0 0 0 0 0 0 0 0 0 0 0 0 0 0 0 E0 0 0 0 0 0 0 false E0 (m.nodes.map ZP) E0 E0 0 0 E0 E0 E0 E0 E0 E0 E0 E0 0 0 E0 E0 E0 E0 E0 E0 E0 E0 false 0 E0 E0 E0 E0 E0 E0 E0 E0 ok 0=some (ok&&(m.nodes.all ZK&&(Z5 m.region&&rest 2 m))):=fun ok=>by
  have q:=l60 m (sel (fun g=>(kf 2).contains g) m) h (JF _ h) m.nodes.length 0 Zw ok (by omega) (by have:=JA h.nodes; omega)
  rw [List.drop_zero,JI] at q
  exact q
 unfold G10
 rw [Yk,if_neg (show ¬ (cop .lss m.kind 1)=true by simp only [CQ]; omega),if_neg (show ¬ (cop .gtr m.kind 17)=true by simp only [CQ]; omega),s95,Option.bind_some,h1,s96,Option.bind_some,h2,s96,Option.bind_some,h3]
 rw [if_neg (show ¬ (!true)=true by decide),if_neg (show ¬ (!true)=true by decide),if_neg (show ¬ (!true)=true by decide)]
 rw [if_neg (kne (show m.kind≠1 by omega))]
 rw [if_pos (keq hk)]
 simp only [L,s98,s99,List.length_map,Option.bind_some]
 cases hr:rest 2 m with
 | false =>
  simp only [Bool.and_false]
  repeat' split
  all_goals rfl
 | true =>
  show _=some ((Zg m 0&&(Zg m 2&&(Zg m 3&&(Zg m 4&&(Zg m 5&&true)))))&&true)
  repeat' split
  all_goals (refine congrArg some ?_; rw [Zh]; simp only [Zg,Jw,CQ] at * <;> grind)
theorem Zyt (m:Msg) (h:m.Fits) (hk:m.kind=3) (h1:Ju m.view=true) (h2:Zs m.frm=true) (h3:Zs m.to=true):G10 m=some ((kf 3).all (Zg m)&&rest 3 m):=by
 have L:∀ ok,G10L m m.kind m.view m.frm m.to 0 m.region 0 m.op.core m.op.op m.op.part 0 false 0 0 0 0 0 0 0 0 0 0 0 0 0 0 0 0 0 0 0 0 E0 0 0 0 0 0 0 false E0 E0 E0 E0 0 0 E0 E0 E0 E0 E0 E0 E0 E0 0 0 E0 E0 E0 E0 E0 E0 E0 E0 false 0 E0 E0 E0 E0 E0 E0 E0 E0 ok 0=some (ok&&(m.nodes.all ZK&&(Z5 m.region&&rest 3 m))):=fun ok=>by
  have q:=l60 m (sel (fun g=>(kf 3).contains g) m) h (JF _ h) m.nodes.length 0 Zw ok (by omega) (by have:=JA h.nodes; omega)
  rw [List.drop_zero,JI] at q
  exact q
 unfold G10
 rw [Yk,if_neg (show ¬ (cop .lss m.kind 1)=true by simp only [CQ]; omega),if_neg (show ¬ (cop .gtr m.kind 17)=true by simp only [CQ]; omega),s95,Option.bind_some,h1,s96,Option.bind_some,h2,s96,Option.bind_some,h3]
 rw [if_neg (show ¬ (!true)=true by decide),if_neg (show ¬ (!true)=true by decide),if_neg (show ¬ (!true)=true by decide)]
 rw [if_neg (kne (show m.kind≠1 by omega))]
 rw [if_neg (kne (show m.kind≠2 by omega))]
 rw [if_neg (kne (show m.kind≠4 by omega))]
 rw [if_neg (kne (show m.kind≠5 by omega))]
 rw [if_neg (kne (show m.kind≠6 by omega))]
 rw [if_neg (kne (show m.kind≠12 by omega))]
 rw [if_neg (kne (show m.kind≠13 by omega))]
 rw [if_neg (kne (show m.kind≠14 by omega))]
 rw [if_neg (kne (show m.kind≠15 by omega))]
 rw [if_neg (kne (show m.kind≠16 by omega))]
 rw [if_neg (kne (show m.kind≠17 by omega))]
 simp only [L,s98,Option.bind_some]
 cases hr:rest 3 m with
 | false =>
  simp only [Bool.and_false]
  repeat' split
  all_goals rfl
 | true =>
  have hn:=Jj (JJ hr 5 (by omega) rfl)
  show _=some ((Zg m 0&&(Zg m 2&&true))&&true)
  repeat' split
  all_goals (refine congrArg some ?_; rw [Zh]; simp only [Zg,Jw,CQ] at * <;> grind)
theorem ZxM (m:Msg) (h:m.Fits) (hk:m.kind=4) (h1:Ju m.view=true) (h2:Zs m.frm=true) (h3:Zs m.to=true):G10 m=some ((kf 4).all (Zg m)&&rest 4 m):=by
 have L:∀ ok,G10L m m.kind m.view m.frm m.to 0 m.region m.slot m.op.core m.op.op m.op.part 0 false 0 0 0 0 0 0 0 0 0 0 0 0 0 0 0 0 0 0 0 0 E0 0 0 0 0 0 0 false E0 (m.nodes.map ZP) E0 E0 0 0 E0 E0 E0 E0 E0 E0 E0 E0 0 0 E0 E0 E0 E0 E0 E0 E0 E0 false 0 E0 E0 E0 E0 E0 E0 E0 E0 ok 0=some (ok&&(m.nodes.all ZK&&(Z5 m.region&&rest 4 m))):=fun ok=>by
  have q:=l60 m (sel (fun g=>(kf 4).contains g) m) h (JF _ h) m.nodes.length 0 Zw ok (by omega) (by have:=JA h.nodes; omega)
  rw [List.drop_zero,JI] at q
  exact q
 unfold G10
 rw [Yk,if_neg (show ¬ (cop .lss m.kind 1)=true by simp only [CQ]; omega),if_neg (show ¬ (cop .gtr m.kind 17)=true by simp only [CQ]; omega),s95,Option.bind_some,h1,s96,Option.bind_some,h2,s96,Option.bind_some,h3]
 rw [if_neg (show ¬ (!true)=true by decide),if_neg (show ¬ (!true)=true by decide),if_neg (show ¬ (!true)=true by decide)]
 rw [if_neg (kne (show m.kind≠1 by omega))]
 rw [if_neg (kne (show m.kind≠2 by omega))]
 rw [if_pos (keq hk)]
 simp only [L,s98,List.length_map,Option.bind_some]
 cases hr:rest 4 m with
 | false =>
  simp only [Bool.and_false]
  repeat' split
  all_goals rfl
 | true =>
  show _=some ((Zg m 0&&(Zg m 2&&(Zg m 6&&(Zg m 5&&true))))&&true)
  repeat' split
  all_goals (refine congrArg some ?_; rw [Zh]; simp only [Zg,Jw,CQ] at * <;> grind)
theorem ZyE (m:Msg) (h:m.Fits) (hk:m.kind=5) (h1:Ju m.view=true) (h2:Zs m.frm=true) (h3:Zs m.to=true):G10 m=some ((kf 5).all (Zg m)&&rest 5 m):=by
 have L:∀ ok,G10L m m.kind m.view m.frm m.to 0 m.region 0 m.op.core m.op.op m.op.part m.err false 0 0 0 0 0 0 0 0 0 0 0 0 0 0 0 0 0 0 0 0 E0 0 0 0 0 0 0 false E0 E0 E0 E0 0 0 E0 E0 E0 E0 E0 E0 E0 E0 0 0 E0 E0 E0 E0 E0 E0 E0 E0 false 0 E0 E0 E0 E0 E0 E0 E0 E0 ok 0=some (ok&&(m.nodes.all ZK&&(Z5 m.region&&rest 5 m))):=fun ok=>by
  have q:=l60 m (sel (fun g=>(kf 5).contains g) m) h (JF _ h) m.nodes.length 0 Zw ok (by omega) (by have:=JA h.nodes; omega)
  rw [List.drop_zero,JI] at q
  exact q
 unfold G10
 rw [Yk,if_neg (show ¬ (cop .lss m.kind 1)=true by simp only [CQ]; omega),if_neg (show ¬ (cop .gtr m.kind 17)=true by simp only [CQ]; omega),s95,Option.bind_some,h1,s96,Option.bind_some,h2,s96,Option.bind_some,h3]
 rw [if_neg (show ¬ (!true)=true by decide),if_neg (show ¬ (!true)=true by decide),if_neg (show ¬ (!true)=true by decide)]
 rw [if_neg (kne (show m.kind≠1 by omega))]
 rw [if_neg (kne (show m.kind≠2 by omega))]
 rw [if_neg (kne (show m.kind≠4 by omega))]
 rw [if_pos (keq hk)]
 simp only [L,s98,s99,Option.bind_some]
 cases hr:rest 5 m with
 | false =>
  simp only [Bool.and_false]
  repeat' split
  all_goals rfl
 | true =>
  have hn:=Jj (JJ hr 5 (by omega) rfl)
  show _=some ((Zg m 0&&(Zg m 2&&(Zg m 3&&true)))&&true)
  repeat' split
  all_goals (refine congrArg some ?_; rw [Zh]; simp only [Zg,Jw,CQ] at * <;> grind)
theorem Zzl (m:Msg) (h:m.Fits) (hk:m.kind=6) (h1:Ju m.view=true) (h2:Zs m.frm=true) (h3:Zs m.to=true):G10 m=some ((kf 6).all (Zg m)&&rest 6 m):=by
 have L:∀ ok,G10L m m.kind m.view m.frm m.to 0 m.region 0 m.op.core m.op.op m.op.part 0 false 0 0 0 0 0 0 0 0 0 0 0 0 0 0 0 0 0 0 0 0 E0 0 0 0 0 0 0 false (Zb m.ids) E0 E0 E0 0 0 E0 E0 E0 E0 E0 E0 E0 E0 0 0 E0 E0 E0 E0 E0 E0 E0 E0 false 0 E0 E0 E0 E0 E0 E0 E0 E0 ok 0=some (ok&&(m.nodes.all ZK&&(Z5 m.region&&rest 6 m))):=fun ok=>by
  have q:=l60 m (sel (fun g=>(kf 6).contains g) m) h (JF _ h) m.nodes.length 0 Zw ok (by omega) (by have:=JA h.nodes; omega)
  rw [List.drop_zero,JI] at q
  exact q
 unfold G10
 rw [Yk,if_neg (show ¬ (cop .lss m.kind 1)=true by simp only [CQ]; omega),if_neg (show ¬ (cop .gtr m.kind 17)=true by simp only [CQ]; omega),s95,Option.bind_some,h1,s96,Option.bind_some,h2,s96,Option.bind_some,h3]
 rw [if_neg (show ¬ (!true)=true by decide),if_neg (show ¬ (!true)=true by decide),if_neg (show ¬ (!true)=true by decide)]
 rw [if_neg (kne (show m.kind≠1 by omega))]
 rw [if_neg (kne (show m.kind≠2 by omega))]
 rw [if_neg (kne (show m.kind≠4 by omega))]
 rw [if_neg (kne (show m.kind≠5 by omega))]
 rw [if_pos (keq hk)]
 simp only [L,s98,Zz7 _ _ h.ids,Z1,Zqn,Option.bind_some]
 cases hr:rest 6 m with
 | false =>
  simp only [Bool.and_false]
  repeat' split
  all_goals rfl
 | true =>
  have hn:=Jj (JJ hr 5 (by omega) rfl)
  show _=some ((Zg m 0&&(Zg m 2&&(Zg m 7&&true)))&&true)
  repeat' split
  all_goals (refine congrArg some ?_; rw [Zh]; simp only [Zg,Jw,CQ] at * <;> grind)
theorem Zx2 (m:Msg) (h:m.Fits) (hk:m.kind=7) (h1:Ju m.view=true) (h2:Zs m.frm=true) (h3:Zs m.to=true):G10 m=some ((kf 7).all (Zg m)&&rest 7 m):=by
 have L:∀ ok,G10L m m.kind m.view m.frm m.to 0 m.region 0 m.op.core m.op.op m.op.part 0 false 0 0 0 0 0 0 0 0 0 0 0 0 0 0 0 0 0 0 0 0 E0 0 0 0 0 0 0 false E0 E0 E0 E0 0 0 E0 E0 E0 E0 E0 E0 E0 E0 0 0 E0 E0 E0 E0 E0 E0 E0 E0 false 0 E0 E0 E0 E0 E0 E0 E0 E0 ok 0=some (ok&&(m.nodes.all ZK&&(Z5 m.region&&rest 7 m))):=fun ok=>by
  have q:=l60 m (sel (fun g=>(kf 7).contains g) m) h (JF _ h) m.nodes.length 0 Zw ok (by omega) (by have:=JA h.nodes; omega)
  rw [List.drop_zero,JI] at q
  exact q
 unfold G10
 rw [Yk,if_neg (show ¬ (cop .lss m.kind 1)=true by simp only [CQ]; omega),if_neg (show ¬ (cop .gtr m.kind 17)=true by simp only [CQ]; omega),s95,Option.bind_some,h1,s96,Option.bind_some,h2,s96,Option.bind_some,h3]
 rw [if_neg (show ¬ (!true)=true by decide),if_neg (show ¬ (!true)=true by decide),if_neg (show ¬ (!true)=true by decide)]
 rw [if_neg (kne (show m.kind≠1 by omega))]
 rw [if_neg (kne (show m.kind≠2 by omega))]
 rw [if_neg (kne (show m.kind≠4 by omega))]
 rw [if_neg (kne (show m.kind≠5 by omega))]
 rw [if_neg (kne (show m.kind≠6 by omega))]
 rw [if_neg (kne (show m.kind≠12 by omega))]
 rw [if_neg (kne (show m.kind≠13 by omega))]
 rw [if_neg (kne (show m.kind≠14 by omega))]
 rw [if_neg (kne (show m.kind≠15 by omega))]
 rw [if_neg (kne (show m.kind≠16 by omega))]
 rw [if_neg (kne (show m.kind≠17 by omega))]
 simp only [L,s98,Option.bind_some]
 cases hr:rest 7 m with
 | false =>
  simp only [Bool.and_false]
  repeat' split
  all_goals rfl
 | true =>
  have hn:=Jj (JJ hr 5 (by omega) rfl)
  show _=some ((Zg m 0&&(Zg m 2&&true))&&true)
  repeat' split
  all_goals (refine congrArg some ?_; rw [Zh]; simp only [Zg,Jw,CQ] at * <;> grind)
theorem ZyM (m:Msg) (h:m.Fits) (hk:m.kind=8) (h1:Ju m.view=true) (h2:Zs m.frm=true) (h3:Zs m.to=true):G10 m=some ((kf 8).all (Zg m)&&rest 8 m):=by
 have L:∀ ok,G10L m m.kind m.view m.frm m.to 0 m.region 0 m.op.core m.op.op m.op.part 0 false 0 0 0 0 0 0 0 0 0 0 0 0 0 0 0 0 0 0 0 0 E0 0 0 0 0 0 0 false E0 E0 E0 E0 0 0 E0 E0 E0 E0 E0 E0 E0 E0 0 0 E0 E0 E0 E0 E0 E0 E0 E0 false 0 E0 E0 E0 E0 E0 E0 E0 E0 ok 0=some (ok&&(m.nodes.all ZK&&(Z5 m.region&&rest 8 m))):=fun ok=>by
  have q:=l60 m (sel (fun g=>(kf 8).contains g) m) h (JF _ h) m.nodes.length 0 Zw ok (by omega) (by have:=JA h.nodes; omega)
  rw [List.drop_zero,JI] at q
  exact q
 unfold G10
 rw [Yk,if_neg (show ¬ (cop .lss m.kind 1)=true by simp only [CQ]; omega),if_neg (show ¬ (cop .gtr m.kind 17)=true by simp only [CQ]; omega),s95,Option.bind_some,h1,s96,Option.bind_some,h2,s96,Option.bind_some,h3]
 rw [if_neg (show ¬ (!true)=true by decide),if_neg (show ¬ (!true)=true by decide),if_neg (show ¬ (!true)=true by decide)]
 rw [if_neg (kne (show m.kind≠1 by omega))]
 rw [if_neg (kne (show m.kind≠2 by omega))]
 rw [if_neg (kne (show m.kind≠4 by omega))]
 rw [if_neg (kne (show m.kind≠5 by omega))]
 rw [if_neg (kne (show m.kind≠6 by omega))]
 rw [if_neg (kne (show m.kind≠12 by omega))]
 rw [if_neg (kne (show m.kind≠13 by omega))]
 rw [if_neg (kne (show m.kind≠14 by omega))]
 rw [if_neg (kne (show m.kind≠15 by omega))]
 rw [if_neg (kne (show m.kind≠16 by omega))]
 rw [if_neg (kne (show m.kind≠17 by omega))]
 simp only [L,s98,Option.bind_some]
 cases hr:rest 8 m with
 | false =>
  simp only [Bool.and_false]
  repeat' split
  all_goals rfl
 | true =>
  have hn:=Jj (JJ hr 5 (by omega) rfl)
  show _=some ((Zg m 0&&(Zg m 2&&true))&&true)
  repeat' split
  all_goals (refine congrArg some ?_; rw [Zh]; simp only [Zg,Jw,CQ] at * <;> grind)
theorem Zx5 (m:Msg) (h:m.Fits) (hk:m.kind=9) (h1:Ju m.view=true) (h2:Zs m.frm=true) (h3:Zs m.to=true):G10 m=some ((kf 9).all (Zg m)&&rest 9 m):=by
 have L:∀ ok,G10L m m.kind m.view m.frm m.to 0 m.region 0 m.op.core m.op.op m.op.part 0 false 0 0 0 0 0 0 0 0 0 0 0 0 0 0 0 0 0 0 0 0 E0 0 0 0 0 0 0 false E0 E0 E0 E0 0 0 E0 E0 E0 E0 E0 E0 E0 E0 0 0 E0 E0 E0 E0 E0 E0 E0 E0 false 0 E0 E0 E0 E0 E0 E0 E0 E0 ok 0=some (ok&&(m.nodes.all ZK&&(Z5 m.region&&rest 9 m))):=fun ok=>by
  have q:=l60 m (sel (fun g=>(kf 9).contains g) m) h (JF _ h) m.nodes.length 0 Zw ok (by omega) (by have:=JA h.nodes; omega)
  rw [List.drop_zero,JI] at q
  exact q
 unfold G10
 rw [Yk,if_neg (show ¬ (cop .lss m.kind 1)=true by simp only [CQ]; omega),if_neg (show ¬ (cop .gtr m.kind 17)=true by simp only [CQ]; omega),s95,Option.bind_some,h1,s96,Option.bind_some,h2,s96,Option.bind_some,h3]
 rw [if_neg (show ¬ (!true)=true by decide),if_neg (show ¬ (!true)=true by decide),if_neg (show ¬ (!true)=true by decide)]
 rw [if_neg (kne (show m.kind≠1 by omega))]
 rw [if_neg (kne (show m.kind≠2 by omega))]
 rw [if_neg (kne (show m.kind≠4 by omega))]
 rw [if_neg (kne (show m.kind≠5 by omega))]
 rw [if_neg (kne (show m.kind≠6 by omega))]
 rw [if_neg (kne (show m.kind≠12 by omega))]
 rw [if_neg (kne (show m.kind≠13 by omega))]
 rw [if_neg (kne (show m.kind≠14 by omega))]
 rw [if_neg (kne (show m.kind≠15 by omega))]
 rw [if_neg (kne (show m.kind≠16 by omega))]
 rw [if_neg (kne (show m.kind≠17 by omega))]
 simp only [L,s98,Option.bind_some]
 cases hr:rest 9 m with
 | false =>
  simp only [Bool.and_false]
  repeat' split
  all_goals rfl
 | true =>
  have hn:=Jj (JJ hr 5 (by omega) rfl)
  show _=some ((Zg m 0&&(Zg m 2&&true))&&true)
  repeat' split
  all_goals (refine congrArg some ?_; rw [Zh]; simp only [Zg,Jw,CQ] at * <;> grind)
theorem Ztn (m:Msg) (h:m.Fits) (hk:m.kind=10) (h1:Ju m.view=true) (h2:Zs m.frm=true) (h3:Zs m.to=true):G10 m=some ((kf 10).all (Zg m)&&rest 10 m):=by
 have L:∀ ok,G10L m m.kind m.view m.frm m.to 0 m.region 0 m.op.core m.op.op m.op.part 0 false 0 0 0 0 0 0 0 0 0 0 0 0 0 0 0 0 0 0 0 0 E0 0 0 0 0 0 0 false E0 E0 E0 E0 0 0 E0 E0 E0 E0 E0 E0 E0 E0 0 0 E0 E0 E0 E0 E0 E0 E0 E0 false 0 E0 E0 E0 E0 E0 E0 E0 E0 ok 0=some (ok&&(m.nodes.all ZK&&(Z5 m.region&&rest 10 m))):=fun ok=>by
  have q:=l60 m (sel (fun g=>(kf 10).contains g) m) h (JF _ h) m.nodes.length 0 Zw ok (by omega) (by have:=JA h.nodes; omega)
  rw [List.drop_zero,JI] at q
  exact q
 unfold G10
 rw [Yk,if_neg (show ¬ (cop .lss m.kind 1)=true by simp only [CQ]; omega),if_neg (show ¬ (cop .gtr m.kind 17)=true by simp only [CQ]; omega),s95,Option.bind_some,h1,s96,Option.bind_some,h2,s96,Option.bind_some,h3]
 rw [if_neg (show ¬ (!true)=true by decide),if_neg (show ¬ (!true)=true by decide),if_neg (show ¬ (!true)=true by decide)]
 rw [if_neg (kne (show m.kind≠1 by omega))]
 rw [if_neg (kne (show m.kind≠2 by omega))]
 rw [if_neg (kne (show m.kind≠4 by omega))]
 rw [if_neg (kne (show m.kind≠5 by omega))]
 rw [if_neg (kne (show m.kind≠6 by omega))]
 rw [if_neg (kne (show m.kind≠12 by omega))]
 rw [if_neg (kne (show m.kind≠13 by omega))]
 rw [if_neg (kne (show m.kind≠14 by omega))]
 rw [if_neg (kne (show m.kind≠15 by omega))]
 rw [if_neg (kne (show m.kind≠16 by omega))]
 rw [if_neg (kne (show m.kind≠17 by omega))]
 simp only [L,s98,Option.bind_some]
 cases hr:rest 10 m with
 | false =>
  simp only [Bool.and_false]
  repeat' split
  all_goals rfl
 | true =>
  have hn:=Jj (JJ hr 5 (by omega) rfl)
  show _=some ((Zg m 0&&(Zg m 2&&true))&&true)
  repeat' split
  all_goals (refine congrArg some ?_; rw [Zh]; simp only [Zg,Jw,CQ] at * <;> grind)
theorem Zu9 (m:Msg) (h:m.Fits) (hk:m.kind=11) (h1:Ju m.view=true) (h2:Zs m.frm=true) (h3:Zs m.to=true):G10 m=some ((kf 11).all (Zg m)&&rest 11 m):=by
 have L:∀ ok,G10L m m.kind m.view m.frm m.to 0 m.region 0 m.op.core m.op.op m.op.part 0 false 0 0 0 0 0 0 0 0 0 0 0 0 0 0 0 0 0 0 0 0 E0 0 0 0 0 0 0 false E0 E0 E0 E0 0 0 E0 E0 E0 E0 E0 E0 E0 E0 0 0 E0 E0 E0 E0 E0 E0 E0 E0 false 0 E0 E0 E0 E0 E0 E0 E0 E0 ok 0=some (ok&&(m.nodes.all ZK&&(Z5 m.region&&rest 11 m))):=fun ok=>by
  have q:=l60 m (sel (fun g=>(kf 11).contains g) m) h (JF _ h) m.nodes.length 0 Zw ok (by omega) (by have:=JA h.nodes; omega)
  rw [List.drop_zero,JI] at q
  exact q
 unfold G10
 rw [Yk,if_neg (show ¬ (cop .lss m.kind 1)=true by simp only [CQ]; omega),if_neg (show ¬ (cop .gtr m.kind 17)=true by simp only [CQ]; omega),s95,Option.bind_some,h1,s96,Option.bind_some,h2,s96,Option.bind_some,h3]
 rw [if_neg (show ¬ (!true)=true by decide),if_neg (show ¬ (!true)=true by decide),if_neg (show ¬ (!true)=true by decide)]
 rw [if_neg (kne (show m.kind≠1 by omega))]
 rw [if_neg (kne (show m.kind≠2 by omega))]
 rw [if_neg (kne (show m.kind≠4 by omega))]
 rw [if_neg (kne (show m.kind≠5 by omega))]
 rw [if_neg (kne (show m.kind≠6 by omega))]
 rw [if_neg (kne (show m.kind≠12 by omega))]
 rw [if_neg (kne (show m.kind≠13 by omega))]
 rw [if_neg (kne (show m.kind≠14 by omega))]
 rw [if_neg (kne (show m.kind≠15 by omega))]
 rw [if_neg (kne (show m.kind≠16 by omega))]
 rw [if_neg (kne (show m.kind≠17 by omega))]
 simp only [L,s98,Option.bind_some]
 cases hr:rest 11 m with
 | false =>
  simp only [Bool.and_false]
  repeat' split
  all_goals rfl
 | true =>
  have hn:=Jj (JJ hr 5 (by omega) rfl)
  show _=some ((Zg m 0&&(Zg m 2&&true))&&true)
  repeat' split
  all_goals (refine congrArg some ?_; rw [Zh]; simp only [Zg,Jw,CQ] at * <;> grind)
theorem ZtU (m:Msg) (h:m.Fits) (hk:m.kind=12) (h1:Ju m.view=true) (h2:Zs m.frm=true) (h3:Zs m.to=true):G10 m=some ((kf 12).all (Zg m)&&rest 12 m):=by
 have L:∀ ok,G10L m m.kind m.view m.frm m.to m.round 0 0 0 0 0 0 false 0 0 0 0 0 0 0 0 0 0 0 0 0 0 0 0 0 0 0 0 E0 0 0 0 0 0 0 false E0 E0 (Za m.cores) E0 0 0 E0 E0 E0 E0 E0 E0 E0 E0 0 0 E0 E0 E0 E0 E0 E0 E0 E0 false 0 E0 E0 E0 E0 E0 E0 E0 E0 ok 0=some (ok&&(m.nodes.all ZK&&(Z5 m.region&&rest 12 m))):=fun ok=>by
  have q:=l60 m (sel (fun g=>(kf 12).contains g) m) h (JF _ h) m.nodes.length 0 Zw ok (by omega) (by have:=JA h.nodes; omega)
  rw [List.drop_zero,JI] at q
  exact q
 unfold G10
 rw [Yk,if_neg (show ¬ (cop .lss m.kind 1)=true by simp only [CQ]; omega),if_neg (show ¬ (cop .gtr m.kind 17)=true by simp only [CQ]; omega),s95,Option.bind_some,h1,s96,Option.bind_some,h2,s96,Option.bind_some,h3]
 rw [if_neg (show ¬ (!true)=true by decide),if_neg (show ¬ (!true)=true by decide),if_neg (show ¬ (!true)=true by decide)]
 rw [if_neg (kne (show m.kind≠1 by omega))]
 rw [if_neg (kne (show m.kind≠2 by omega))]
 rw [if_neg (kne (show m.kind≠4 by omega))]
 rw [if_neg (kne (show m.kind≠5 by omega))]
 rw [if_neg (kne (show m.kind≠6 by omega))]
 rw [if_pos (keq hk)]
 simp only [L,s95,Zzx _ h.cores,Option.bind_some]
 cases hr:rest 12 m with
 | false =>
  simp only [Bool.and_false]
  repeat' split
  all_goals rfl
 | true =>
  have hn:=Jj (JJ hr 5 (by omega) rfl)
  have hg:=Wv (JJ hr 0 (by omega) rfl)
  show _=some ((Zg m 8&&(Zg m 9&&true))&&true)
  repeat' split
  all_goals (refine congrArg some ?_; rw [Zh]; simp only [Zg,Jw,CQ] at * <;> grind)
theorem Zt6 (m:Msg) (h:m.Fits) (hk:m.kind=13) (h1:Ju m.view=true) (h2:Zs m.frm=true) (h3:Zs m.to=true):G10 m=some ((kf 13).all (Zg m)&&rest 13 m):=by
 have L:∀ ok,G10L m m.kind m.view m.frm m.to m.round 0 0 0 0 0 0 false 0 0 0 0 0 0 0 0 0 0 0 0 0 0 0 0 0 0 0 0 E0 0 0 0 0 0 0 false E0 E0 E0 E0 0 0 E0 E0 E0 E0 E0 E0 E0 E0 m.report.core m.report.view.number (Za m.report.view.members) (Za m.report.view.owners) (m.report.state.slots.map Zf) (m.report.state.pending.map Zt) (m.report.state.marks.map Zj) (m.report.state.answers.map ZF) (m.report.state.entries.map Zd) (Zb m.report.state.commits) m.report.ready m.report.next.number (Za m.report.next.members) (Za m.report.next.owners) (m.report.proposal.slots.map Zf) (m.report.proposal.pending.map Zt) (m.report.proposal.marks.map Zj) (m.report.proposal.answers.map ZF) (m.report.proposal.entries.map Zd) (Zb m.report.proposal.commits) ok 0=some (ok&&(m.nodes.all ZK&&(Z5 m.region&&rest 13 m))):=fun ok=>by
  have q:=l60 m (sel (fun g=>(kf 13).contains g) m) h (JF _ h) m.nodes.length 0 Zw ok (by omega) (by have:=JA h.nodes; omega)
  rw [List.drop_zero,JI] at q
  exact q
 unfold G10
 rw [Yk,if_neg (show ¬ (cop .lss m.kind 1)=true by simp only [CQ]; omega),if_neg (show ¬ (cop .gtr m.kind 17)=true by simp only [CQ]; omega),s95,Option.bind_some,h1,s96,Option.bind_some,h2,s96,Option.bind_some,h3]
 rw [if_neg (show ¬ (!true)=true by decide),if_neg (show ¬ (!true)=true by decide),if_neg (show ¬ (!true)=true by decide)]
 rw [if_neg (kne (show m.kind≠1 by omega))]
 rw [if_neg (kne (show m.kind≠2 by omega))]
 rw [if_neg (kne (show m.kind≠4 by omega))]
 rw [if_neg (kne (show m.kind≠5 by omega))]
 rw [if_neg (kne (show m.kind≠6 by omega))]
 rw [if_neg (kne (show m.kind≠12 by omega))]
 rw [if_pos (keq hk)]
 simp only [L,s95,ZAN _ h.report,Option.bind_some]
 cases hr:rest 13 m with
 | false =>
  simp only [Bool.and_false]
  repeat' split
  all_goals rfl
 | true =>
  have hn:=Jj (JJ hr 5 (by omega) rfl)
  have hg:=Wv (JJ hr 0 (by omega) rfl)
  show _=some ((Zg m 8&&(Zg m 10&&true))&&true)
  repeat' split
  all_goals (refine congrArg some ?_; rw [Zh]; simp only [Zg,Jw,CQ] at * <;> grind)
theorem Zvb (m:Msg) (h:m.Fits) (hk:m.kind=14) (h1:Ju m.view=true) (h2:Zs m.frm=true) (h3:Zs m.to=true):G10 m=some ((kf 14).all (Zg m)&&rest 14 m):=by
 have L:∀ ok,G10L m m.kind m.view m.frm m.to m.round 0 0 0 0 0 0 false 0 0 0 0 0 0 0 0 0 0 0 0 0 0 0 0 0 0 0 0 E0 0 0 0 0 0 0 false E0 E0 (Za m.cores) E0 m.base m.next.number (Za m.next.members) (Za m.next.owners) (m.state.slots.map Zf) (m.state.pending.map Zt) (m.state.marks.map Zj) (m.state.answers.map ZF) (m.state.entries.map Zd) (Zb m.state.commits) 0 0 E0 E0 E0 E0 E0 E0 E0 E0 false 0 E0 E0 E0 E0 E0 E0 E0 E0 ok 0=some (ok&&(m.nodes.all ZK&&(Z5 m.region&&rest 14 m))):=fun ok=>by
  have q:=l60 m (sel (fun g=>(kf 14).contains g) m) h (JF _ h) m.nodes.length 0 Zw ok (by omega) (by have:=JA h.nodes; omega)
  rw [List.drop_zero,JI] at q
  exact q
 unfold G10
 rw [Yk,if_neg (show ¬ (cop .lss m.kind 1)=true by simp only [CQ]; omega),if_neg (show ¬ (cop .gtr m.kind 17)=true by simp only [CQ]; omega),s95,Option.bind_some,h1,s96,Option.bind_some,h2,s96,Option.bind_some,h3]
 rw [if_neg (show ¬ (!true)=true by decide),if_neg (show ¬ (!true)=true by decide),if_neg (show ¬ (!true)=true by decide)]
 rw [if_neg (kne (show m.kind≠1 by omega))]
 rw [if_neg (kne (show m.kind≠2 by omega))]
 rw [if_neg (kne (show m.kind≠4 by omega))]
 rw [if_neg (kne (show m.kind≠5 by omega))]
 rw [if_neg (kne (show m.kind≠6 by omega))]
 rw [if_neg (kne (show m.kind≠12 by omega))]
 rw [if_neg (kne (show m.kind≠13 by omega))]
 rw [if_pos (keq hk)]
 simp only [L,s95,Zzx _ h.cores,Zy6 _ h.next.members h.next.owners,Zyd _ h.state,Option.bind_some]
 cases hr:rest 14 m with
 | false =>
  simp only [Bool.and_false]
  repeat' split
  all_goals rfl
 | true =>
  have hn:=Jj (JJ hr 5 (by omega) rfl)
  have hg:=Wv (JJ hr 0 (by omega) rfl)
  show _=some ((Zg m 8&&(Zg m 11&&(Zg m 9&&(Zg m 12&&(Zg m 13&&true)))))&&true)
  repeat' split
  all_goals (refine congrArg some ?_; rw [Zh]; simp only [Zg,Jw,CQ] at * <;> grind)
theorem ZvQ (m:Msg) (h:m.Fits) (hk:m.kind=15) (h1:Ju m.view=true) (h2:Zs m.frm=true) (h3:Zs m.to=true):G10 m=some ((kf 15).all (Zg m)&&rest 15 m):=by
 have L:∀ ok,G10L m m.kind m.view m.frm m.to m.round 0 0 0 0 0 0 false 0 0 0 0 0 0 0 0 0 0 0 0 0 0 0 0 0 0 0 0 E0 0 0 0 0 0 0 false E0 E0 E0 E0 0 0 E0 E0 E0 E0 E0 E0 E0 E0 0 0 E0 E0 E0 E0 E0 E0 E0 E0 false 0 E0 E0 E0 E0 E0 E0 E0 E0 ok 0=some (ok&&(m.nodes.all ZK&&(Z5 m.region&&rest 15 m))):=fun ok=>by
  have q:=l60 m (sel (fun g=>(kf 15).contains g) m) h (JF _ h) m.nodes.length 0 Zw ok (by omega) (by have:=JA h.nodes; omega)
  rw [List.drop_zero,JI] at q
  exact q
 unfold G10
 rw [Yk,if_neg (show ¬ (cop .lss m.kind 1)=true by simp only [CQ]; omega),if_neg (show ¬ (cop .gtr m.kind 17)=true by simp only [CQ]; omega),s95,Option.bind_some,h1,s96,Option.bind_some,h2,s96,Option.bind_some,h3]
 rw [if_neg (show ¬ (!true)=true by decide),if_neg (show ¬ (!true)=true by decide),if_neg (show ¬ (!true)=true by decide)]
 rw [if_neg (kne (show m.kind≠1 by omega))]
 rw [if_neg (kne (show m.kind≠2 by omega))]
 rw [if_neg (kne (show m.kind≠4 by omega))]
 rw [if_neg (kne (show m.kind≠5 by omega))]
 rw [if_neg (kne (show m.kind≠6 by omega))]
 rw [if_neg (kne (show m.kind≠12 by omega))]
 rw [if_neg (kne (show m.kind≠13 by omega))]
 rw [if_neg (kne (show m.kind≠14 by omega))]
 rw [if_pos (keq hk)]
 simp only [L,s95,Option.bind_some]
 cases hr:rest 15 m with
 | false =>
  simp only [Bool.and_false]
  repeat' split
  all_goals rfl
 | true =>
  have hn:=Jj (JJ hr 5 (by omega) rfl)
  have hg:=Wv (JJ hr 0 (by omega) rfl)
  show _=some ((Zg m 8&&true)&&true)
  repeat' split
  all_goals (refine congrArg some ?_; rw [Zh]; simp only [Zg,Jw,CQ] at * <;> grind)
theorem Zul (m:Msg) (h:m.Fits) (hk:m.kind=16) (h1:Ju m.view=true) (h2:Zs m.frm=true) (h3:Zs m.to=true):G10 m=some ((kf 16).all (Zg m)&&rest 16 m):=by
 have L:∀ ok,G10L m m.kind m.view m.frm m.to m.round 0 0 0 0 0 0 false 0 0 0 0 0 0 0 0 0 0 0 0 0 0 0 0 0 0 0 0 E0 0 0 0 0 0 0 false E0 E0 E0 E0 0 0 E0 E0 E0 E0 E0 E0 E0 E0 0 0 E0 E0 E0 E0 E0 E0 E0 E0 false 0 E0 E0 E0 E0 E0 E0 E0 E0 ok 0=some (ok&&(m.nodes.all ZK&&(Z5 m.region&&rest 16 m))):=fun ok=>by
  have q:=l60 m (sel (fun g=>(kf 16).contains g) m) h (JF _ h) m.nodes.length 0 Zw ok (by omega) (by have:=JA h.nodes; omega)
  rw [List.drop_zero,JI] at q
  exact q
 unfold G10
 rw [Yk,if_neg (show ¬ (cop .lss m.kind 1)=true by simp only [CQ]; omega),if_neg (show ¬ (cop .gtr m.kind 17)=true by simp only [CQ]; omega),s95,Option.bind_some,h1,s96,Option.bind_some,h2,s96,Option.bind_some,h3]
 rw [if_neg (show ¬ (!true)=true by decide),if_neg (show ¬ (!true)=true by decide),if_neg (show ¬ (!true)=true by decide)]
 rw [if_neg (kne (show m.kind≠1 by omega))]
 rw [if_neg (kne (show m.kind≠2 by omega))]
 rw [if_neg (kne (show m.kind≠4 by omega))]
 rw [if_neg (kne (show m.kind≠5 by omega))]
 rw [if_neg (kne (show m.kind≠6 by omega))]
 rw [if_neg (kne (show m.kind≠12 by omega))]
 rw [if_neg (kne (show m.kind≠13 by omega))]
 rw [if_neg (kne (show m.kind≠14 by omega))]
 rw [if_neg (kne (show m.kind≠15 by omega))]
 rw [if_pos (keq hk)]
 simp only [L,s95,Option.bind_some]
 cases hr:rest 16 m with
 | false =>
  simp only [Bool.and_false]
  repeat' split
  all_goals rfl
 | true =>
  have hn:=Jj (JJ hr 5 (by omega) rfl)
  have hg:=Wv (JJ hr 0 (by omega) rfl)
  show _=some ((Zg m 8&&true)&&true)
  repeat' split
  all_goals (refine congrArg some ?_; rw [Zh]; simp only [Zg,Jw,CQ] at * <;> grind)
theorem ZvM (m:Msg) (h:m.Fits) (hk:m.kind=17) (h1:Ju m.view=true) (h2:Zs m.frm=true) (h3:Zs m.to=true):G10 m=some ((kf 17).all (Zg m)&&rest 17 m):=by
 have L:∀ ok,G10L m m.kind m.view m.frm m.to 0 0 0 0 0 0 0 false 0 0 0 0 0 0 0 0 0 0 0 0 0 0 0 0 0 0 0 0 E0 0 0 0 0 0 0 false E0 E0 (Za m.cores) (m.moves.map Z4) 0 0 E0 E0 E0 E0 E0 E0 E0 E0 0 0 E0 E0 E0 E0 E0 E0 E0 E0 false 0 E0 E0 E0 E0 E0 E0 E0 E0 ok 0=some (ok&&(m.nodes.all ZK&&(Z5 m.region&&rest 17 m))):=fun ok=>by
  have q:=l60 m (sel (fun g=>(kf 17).contains g) m) h (JF _ h) m.nodes.length 0 Zw ok (by omega) (by have:=JA h.nodes; omega)
  rw [List.drop_zero,JI] at q
  exact q
 unfold G10
 rw [Yk,if_neg (show ¬ (cop .lss m.kind 1)=true by simp only [CQ]; omega),if_neg (show ¬ (cop .gtr m.kind 17)=true by simp only [CQ]; omega),s95,Option.bind_some,h1,s96,Option.bind_some,h2,s96,Option.bind_some,h3]
 rw [if_neg (show ¬ (!true)=true by decide),if_neg (show ¬ (!true)=true by decide),if_neg (show ¬ (!true)=true by decide)]
 rw [if_neg (kne (show m.kind≠1 by omega))]
 rw [if_neg (kne (show m.kind≠2 by omega))]
 rw [if_neg (kne (show m.kind≠4 by omega))]
 rw [if_neg (kne (show m.kind≠5 by omega))]
 rw [if_neg (kne (show m.kind≠6 by omega))]
 rw [if_neg (kne (show m.kind≠12 by omega))]
 rw [if_neg (kne (show m.kind≠13 by omega))]
 rw [if_neg (kne (show m.kind≠14 by omega))]
 rw [if_neg (kne (show m.kind≠15 by omega))]
 rw [if_neg (kne (show m.kind≠16 by omega))]
 rw [if_pos (keq hk)]
 simp only [L,Zzx _ h.cores,ZBr _ h.moves,Option.bind_some]
 cases hr:rest 17 m with
 | false =>
  simp only [Bool.and_false]
  repeat' split
  all_goals rfl
 | true =>
  have hn:=Jj (JJ hr 5 (by omega) rfl)
  have hg:=Wv (JJ hr 0 (by omega) rfl)
  show _=some ((Zg m 9&&(Zg m 14&&true))&&true)
  repeat' split
  all_goals (refine congrArg some ?_; rw [Zh]; simp only [Zg,Jw,CQ] at * <;> grind)
theorem ZxQ (m:Msg) (h:m.Fits):G10 m=some (K0 m):=by
 unfold K0 headOk
 by_cases hk:1≤m.kind∧m.kind≤17
 ·rw [show kindOk m.kind=true from decide_eq_true hk]
  cases h1:Ju m.view with
  | false =>
   unfold G10
   rw [Yk,if_neg (show ¬ (cop .lss m.kind 1)=true by simp only [CQ]; omega),if_neg (show ¬ (cop .gtr m.kind 17)=true by simp only [CQ]; omega),s95,Option.bind_some,h1]
   rfl
  | true =>
   cases h2:Zs m.frm with
   | false =>
    unfold G10
    rw [Yk,if_neg (show ¬ (cop .lss m.kind 1)=true by simp only [CQ]; omega),if_neg (show ¬ (cop .gtr m.kind 17)=true by simp only [CQ]; omega),s95,Option.bind_some,h1,s96,Option.bind_some,h2]
    rfl
   | true =>
    cases h3:Zs m.to with
    | false =>
     unfold G10
     rw [Yk,if_neg (show ¬ (cop .lss m.kind 1)=true by simp only [CQ]; omega),if_neg (show ¬ (cop .gtr m.kind 17)=true by simp only [CQ]; omega),s95,Option.bind_some,h1,s96,Option.bind_some,h2,s96,Option.bind_some,h3]
     rfl
    | true =>
     rcases (show m.kind=1∨m.kind=2∨m.kind=3∨m.kind=4∨m.kind=5∨m.kind=6∨m.kind=7∨m.kind=8∨m.kind=9∨m.kind=10∨m.kind=11∨m.kind=12∨m.kind=13∨m.kind=14∨m.kind=15∨m.kind=16∨m.kind=17 by omega) with e | e | e | e | e | e | e | e | e | e | e | e | e | e | e | e | e
     ·rw [ZzA m h e h1 h2 h3,e]; rfl
     ·rw [ZyD m h e h1 h2 h3,e]; rfl
     ·rw [Zyt m h e h1 h2 h3,e]; rfl
     ·rw [ZxM m h e h1 h2 h3,e]; rfl
     ·rw [ZyE m h e h1 h2 h3,e]; rfl
     ·rw [Zzl m h e h1 h2 h3,e]; rfl
     ·rw [Zx2 m h e h1 h2 h3,e]; rfl
     ·rw [ZyM m h e h1 h2 h3,e]; rfl
     ·rw [Zx5 m h e h1 h2 h3,e]; rfl
     ·rw [Ztn m h e h1 h2 h3,e]; rfl
     ·rw [Zu9 m h e h1 h2 h3,e]; rfl
     ·rw [ZtU m h e h1 h2 h3,e]; rfl
     ·rw [Zt6 m h e h1 h2 h3,e]; rfl
     ·rw [Zvb m h e h1 h2 h3,e]; rfl
     ·rw [ZvQ m h e h1 h2 h3,e]; rfl
     ·rw [Zul m h e h1 h2 h3,e]; rfl
     ·rw [ZvM m h e h1 h2 h3,e]; rfl
 ·unfold G10
  rw [show kindOk m.kind=false from decide_eq_false hk,Yk]
  by_cases hl:m.kind < 1
  ·rw [if_pos (show (cop .lss m.kind 1)=true by simp only [CQ]; omega)]; rfl
  ·rw [if_neg (show ¬ (cop .lss m.kind 1)=true by simp only [CQ]; omega),if_pos (show (cop .gtr m.kind 17)=true by simp only [CQ]; omega)]; rfl
theorem s60 (m:Msg) (h:m.Fits):g60 m.kind m.view m.frm m.to m.round m.region m.slot m.op.core m.op.op m.op.part m.err m.settled m.req.id.core m.req.id.op m.req.id.part m.req.call.kind m.req.call.slot m.req.call.dest m.req.call.core m.req.call.mask m.req.call.object m.req.call.bits m.req.call.level m.req.call.offset m.req.call.count m.req.call.index m.req.call.addr m.req.region m.req.width m.req.src.id.core m.req.src.id.op m.req.src.id.part (Zb m.req.src.path) m.req.src.cap.kind m.req.src.cap.base m.req.src.cap.bits m.req.src.cap.rights m.req.src.cap.width m.req.src.cap.level m.req.src.cap.device (Zb m.ids) (m.nodes.map ZP) (Za m.cores) (m.moves.map Z4) m.base m.next.number (Za m.next.members) (Za m.next.owners) (m.state.slots.map Zf) (m.state.pending.map Zt) (m.state.marks.map Zj) (m.state.answers.map ZF) (m.state.entries.map Zd) (Zb m.state.commits) m.report.core m.report.view.number (Za m.report.view.members) (Za m.report.view.owners) (m.report.state.slots.map Zf) (m.report.state.pending.map Zt) (m.report.state.marks.map Zj) (m.report.state.answers.map ZF) (m.report.state.entries.map Zd) (Zb m.report.state.commits) m.report.ready m.report.next.number (Za m.report.next.members) (Za m.report.next.owners) (m.report.proposal.slots.map Zf) (m.report.proposal.pending.map Zt) (m.report.proposal.marks.map Zj) (m.report.proposal.answers.map ZF) (m.report.proposal.entries.map Zd) (Zb m.report.proposal.commits)=some (K0 m):=ZxQ m h
end Go.Proofs.YthdihcchfjlgkaaGreat
end
