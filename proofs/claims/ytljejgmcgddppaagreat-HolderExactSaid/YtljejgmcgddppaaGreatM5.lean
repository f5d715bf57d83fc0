/- End23, H11a, H11b, H12a, H12d, H18a, H18b, H18c, H18d, H18e, H18f, H18g, H18h, H18i, H18j, H24a, H24c: texts of the proof, put together. -/
import Derived.Test.YtljejgmcgddppaaGreatRows
import Derived.Test.YtljejgmcgddppaaGreatChecked
import Derived.Test.YtljejgmcgddppaaGreatM4
import Derived.JoinedOf
import Derived.JoinedAt
import Derived.RowKit3
import Derived.KernelRfl
import Derived.Test.YtljejgmcgddppaaGreatF23e

section
namespace Go.Proofs.YtljejgmcgddppaaGreat
open Go Go.AM
set_option maxRecDepth 100000
theorem behind : ∃ ws, behindMainWord (wordsSigns Tryz.prog.initOrder.toList) = "cut".toList :: ws := by
 have h:Tryz.prog.initOrder.toList=_:=String.toList_ofList (l:=_)
 rw [h]
 exact Zg9 (by kernel_rfl) (by kernel_rfl) (by kernel_rfl) (by kernel_rfl) (by kernel_rfl) (by kernel_rfl)
theorem Zts:Tryz.prog.mayEnter=true:=behind.elim fun _ h=>Go.AM.enters_of h (by kernel_rfl) (by kernel_rfl) (by kernel_rfl)
theorem ZyJ:Tryz.prog.liftsFinal=false:=behind.elim fun _ h=>Go.AM.final_of h
theorem ZuU:Tryz.prog.make=some .cut:=behind.elim fun _ h=>Go.AM.make_of h
theorem Zz7:laidOutB Tryz.prog=true:=by kernel_rfl
theorem Zm8:ownKnob Tryz.prog.godebug=none:=by kernel_rfl
theorem Zah {d:Nat} {cs:List AV} (h:TyR Tryz.prog (d+1) 3 cs):∃ z,cs = [I z]:=by
 simp only [TyR,Tryz.underlying3] at h
 obtain ⟨z,h,_⟩:=h
 exact ⟨z,h⟩
theorem Zlu {d:Nat} {cs:List AV} (h:TyR Tryz.prog (d+1) 4 cs):∃ z,cs = [B z]:=by
 simp only [TyR,Tryz.underlying4] at h
 exact h
theorem arg_int {x:AV} (h:Zb0 Tryz.prog 12 3 x):∃ z,x=I z:=by
 simp only [Zb0,Tryz.underlying3] at h
 obtain ⟨z,hz⟩:=Zah h.2
 exact ⟨z,by simpa using hz⟩
def ZhJ (z:Int):List AV:=[I z]
def Za (l:List Int):List (List AV):=l.map ZhJ
structure Id where
 core:Int
 op:Int
 part:Int
 deriving DecidableEq
def idc (i:Id):List AV:=[I i.core,I i.op,I i.part]
def Zb (l:List Id):List (List AV):=l.map idc
theorem ZdL {α β:Type} {f:α→β} {p:α→Prop} : ∀ (xs:List β),(∀ x∈xs,∃ a,x=f a∧p a)→∃ l:List α,xs=l.map f∧∀ a∈l,p a
 | [], _ => ⟨[], rfl, by simp⟩
 | x :: xs, h => by
  obtain ⟨a,h1,h2⟩:=h x (by simp)
  obtain ⟨l,h3,h4⟩:=ZdL xs fun y hy=>h y (by simp [hy])
  refine ⟨a :: l,by rw [h1,h3]; rfl,fun b hb=>?_⟩
  rcases List.mem_cons.1 hb with rfl | hb
  ·exact h2
  ·exact h4 b hb
theorem ZuP:Tryz.prog.cellsOf 3=1:=by kernel_rfl
theorem ZjL {x:AV} (h:Zb0 Tryz.prog 12 22 x):∃ l,x = .slice false 1 (Za l)∧l.length≤maxLen:=by
 simp only [Zb0,Tryz.underlying22] at h
 have hh:=h.2
 rw [TyR] at hh
 simp only [Tryz.underlying22,ZuP] at hh
 obtain ⟨xs,h1,h2,h3⟩:=hh
 obtain ⟨l,rfl,h5⟩:=ZdL (f:=ZhJ) (p:=fun _=>True) xs fun y hy=>by
  have:=h3 y hy
  rw [TyR] at this
  simp only [Tryz.underlying3] at this
  obtain ⟨z,rfl,hz⟩:=this
  exact ⟨z,rfl,trivial⟩
 exact ⟨l,by simpa [Za] using h1,by simpa using h2⟩
def Zqy:List TypeId:=[3,22,23,28,37,54]
theorem Zx6 (t:TypeId) (h:Zqy.contains t=true):ZbX Tryz.prog 12 t=true∧t < Tryz.prog.types.size∧Tryz.prog.readableRec t=true:=by
 have h2:Zqy.all (fun t=>ZbX Tryz.prog 12 t&&decide (t < Tryz.prog.types.size)&&Tryz.prog.readableRec t)=true:=by kernel_rfl
 rw [List.all_eq_true] at h2
 have:=h2 t (by simpa using h)
 simpa [and_assoc] using this
end Go.Proofs.YtljejgmcgddppaaGreat
end

section
namespace Go.Proofs.YtljejgmcgddppaaGreat
open Go Go.AM
set_option linter.unusedSimpArgs false
set_option linter.unusedVariables false
set_option maxRecDepth 100000
def VX (k b:Int):Bool:=decide ((k=1∧6≤b∧b≤40)∨(k=2∧12≤b∧b≤40)∨(k=3∧b=12)∨(k=4∧b=6)∨(k=5∧b=10)∨(k=6∧b=16))
theorem ZzU (k b:Int):ZwF k b=some (VX k b):=by
 rw [Zrs]
 repeat' split
 all_goals (refine congrArg some ?_; rw [Zi]; simp only [VX,CQ] at *; omega)
def ZiN (k:Int):Int:=if k=3 then 12 else if k=4 then 6 else if k=5 then 10 else if k=6 then 16 else 0
theorem ZAH (k:Int):ZyD k=some (ZiN k):=by
 rw [ZqC]
 simp only [CQ,ZiN]
 repeat' split
 all_goals first | rfl | omega
theorem s85 (k b:Int):g85 k b=some (VX k b):=by
 rw [ZsF]
 simp only [ZAH,Option.bind_some]
 repeat' split
 all_goals (refine congrArg some ?_; rw [Zi]; simp only [VX,CQ] at *; first | omega | (rcases (by omega:k=3∨k=4∨k=5∨k=6) with rfl | rfl | rfl | rfl <;> simp [ZiN]))
def Zdd (w l:Int):Bool:=decide ((w=32∧0≤l∧l≤1)∨(w=39∧0≤l∧l≤2))
theorem ZAF (w l:Int):ZxZ w l=some (Zdd w l):=by
 rw [ZqA]
 repeat' split
 all_goals (refine congrArg some ?_; rw [Zi]; simp only [Zdd,CQ] at *; omega)
theorem s86 (w l:Int):g86 w l=some (Zdd w l):=by
 rw [ZsR]
 repeat' split
 all_goals (refine congrArg some ?_; rw [Zi]; simp only [Zdd,CQ] at *; omega)
def Va (a b:Int):Bool:=decide (6≤b∧b≤40∧0≤a∧a % 2 ^ b.toNat=0∧a+2 ^ b.toNat≤1099511627776)
theorem Zi5 {b:Int} (h:b≤40):(2:Int) ^ b.toNat≤1099511627776:=by
 have:=Zmk (m:=b.toNat) (n:=40) (by omega)
 have e:(2:Int) ^ 40=1099511627776:=by decide
 omega
theorem Zh3 {a:Int} {n:Nat} (h:0≤a):iop .rem .i64 a (2 ^ n)=a % 2 ^ n:=Int.tmod_eq_emod_of_nonneg h
theorem Zvc {b:Int} (h:b≤40):iop .sub .i64 1099511627776 (2 ^ b.toNat)=1099511627776 - 2 ^ b.toNat:=by
 have:=Zi5 h
 have:=Yy b.toNat
 exact Zbz (by omega) (by omega)
theorem Zz1 (a b:Int):Zyy a b=some (Va a b):=by
 have hp:=Yy b.toNat
 rw [Zre]
 by_cases h1:6≤b∧b≤40∧0≤a
 ·obtain ⟨h1,h2,h3⟩:=h1
  have hs:iop .shl .i64 1 b=2 ^ b.toNat:=Zr6 (by omega)
  have hr:Zw ((0:Int)≤b)=fun (x:Option Bool)=>x:=funext fun x=>Ze (by omega) x
  have hn:Zw (((2:Int) ^ b.toNat)≠0)=fun (x:Option Bool)=>x:=funext fun x=>Ze (by omega) x
  simp only [hs,hr,hn,Zh3 h3,Zvc h2]
  repeat' split
  all_goals (refine congrArg some ?_; rw [Zi]; simp only [Va,CQ] at *; omega)
 ·have hf:Va a b=false:=by simp only [Va,decide_eq_false_iff_not]; omega
  rw [hf]
  repeat' split
  all_goals first | rfl | (exfalso; simp only [CQ] at *; omega)
theorem Zv2 (a b:Int):Zpp a b=some (Va a b):=by
 have hp:=Yy b.toNat
 rw [Zqs]
 by_cases h1:6≤b∧b≤40∧0≤a
 ·obtain ⟨h1,h2,h3⟩:=h1
  have hw:IntKind.wrap .u64 b=b:=KW (by omega) (by omega)
  have hs:iop .shl .i64 1 b=2 ^ b.toNat:=Zr6 (by omega)
  have hr:Zw ((0:Int)≤b)=fun (x:Option Bool)=>x:=funext fun x=>Ze (by omega) x
  have hn:Zw (((2:Int) ^ b.toNat)≠0)=fun (x:Option Bool)=>x:=funext fun x=>Ze (by omega) x
  have h40:=Zi5 h2
  simp only [hw,hs,hr,hn,Zh3 h3]
  repeat' split
  all_goals (refine congrArg some ?_; rw [Zi]; simp only [Va,CQ] at *; first | omega | (rw [Kh (by omega) (by omega)] at *; omega))
 ·have hf:Va a b=false:=by simp only [Va,decide_eq_false_iff_not]; omega
  rw [hf]
  repeat' split
  all_goals first | rfl | (exfalso; simp only [CQ] at *; omega)
def ZbM (a b:Int):Int:=if Va a b=true then a+2 ^ b.toNat else 0
theorem Zfu {a b:Int} (h:Va a b=true):6≤b∧b≤40∧0≤a∧a % 2 ^ b.toNat=0∧a+2 ^ b.toNat≤1099511627776:=by simpa [Va] using h
theorem ZrU {a b:Int} (h:Va a b=true):iop .add .i64 a (iop .shl .i64 1 b)=ZbM a b:=by
 obtain ⟨h1,h2,h3,h4,h5⟩:=Zfu h
 have:=Yy b.toNat
 rw [Zr6 (by omega),Kh (by omega) (by omega),ZbM,if_pos h]
def Zsy (a b c d:Int):Bool:=Va a b&&Va c d&&decide (a < ZbM c d)&&decide (c < ZbM a b)
def inB (a b c d:Int):Bool:=Va a b&&Va c d&&decide (a≤c)&&decide (ZbM c d≤ZbM a b)
structure Cap where
 kind:Int
 base:Int
 bits:Int
 rights:Int
 width:Int
 level:Int
 device:Bool
theorem ZAG (k b s r w l:Int) (d:Bool):ZxT k b s r w l d=some (b,s):=ZrX ..
theorem s81 (k b s r w l:Int) (d:Bool):g81 k b s r w l d=some (b,s):=Zvf ..
def VF (c:Cap):Bool:=VX c.kind c.bits&&Va c.base c.bits&&decide (0≤c.rights∧c.rights≤7)&&(if c.kind=3 then Zdd c.width c.level else decide (c.width=0∧c.level=0))&&(!c.device||decide (c.kind=1)||decide (c.kind=2))
theorem Zz5 (k b s r w l:Int) (d:Bool):Zws k b s r w l d=some (VF ⟨k,b,s,r,w,l,d⟩):=by
 rw [ZqK]
 simp only [ZzU,ZAG,Zz1,ZAF,Option.bind_some]
 repeat' split
 all_goals (refine congrArg some ?_; rw [Zi]; simp only [VF,CQ] at *; grind)
theorem s84 (k b s r w l:Int) (d:Bool):g84 k b s r w l d=some (VF ⟨k,b,s,r,w,l,d⟩):=by
 rw [Zt3]
 simp only [s85,s81,Zv2,s86,Option.bind_some]
 repeat' split
 all_goals (refine congrArg some ?_; rw [Zi]; simp only [VF,CQ] at *; grind)
end Go.Proofs.YtljejgmcgddppaaGreat
end

section
namespace Go.Proofs.YtljejgmcgddppaaGreat
open Go Go.AM
set_option linter.unusedSimpArgs false
set_option linter.unusedVariables false
set_option maxRecDepth 100000
def Znc (obj a sz bits r w l:Int) (d:Bool) (j:Nat):List AV:=[I obj,I (a+j * sz),I bits,I r,I w,I l,B d]
def YX (obj a sz bits r w l:Int) (d:Bool) (n:Nat):List (List AV):=(List.range n).map (Znc obj a sz bits r w l d)
theorem ZfC (obj a sz bits r w l:Int) (d:Bool) (n:Nat):YX obj a sz bits r w l d (n+1)=YX obj a sz bits r w l d n++[Znc obj a sz bits r w l d n]:=by
 simp [YX,List.range_succ]
theorem ZbU (obj a sz bits r w l:Int) (d:Bool) (n:Nat):(YX obj a sz bits r w l d n).length=n:=by simp [YX]
theorem Zbf {n:Nat} (h:n < 2 ^ 64):n < Zx:=by
 have:Zx=1208925819614629174706176:=rfl
 omega
theorem Zlr {a b:List (List AV)} {k:Nat} (h:(a.length+b.length) * (k+1)≤1099511627776):Z8 a b k:=h
theorem ZoC {k b:Int} (h:VX k b=true):6≤b∧b≤40:=by
 simp only [VX,decide_eq_true_eq] at h
 omega
theorem Zqh {c:Cap} (h:VF c=true):Va c.base c.bits=true:=by
 simp only [VF,Bool.and_eq_true] at h
 exact h.1.1.1.2
def ZcN (c:Cap) (obj bits level width off cnt:Int):Int:=
 if VF c=false∨c.kind≠1 then 5
 else if iop .and .i64 c.rights 2=0 then 8
 else if VX obj bits=false∨(obj=3∧Zdd width level=false)∨cnt < 1∨8 < cnt∨off < 0 then 1
 else if c.device=true∧obj≠1∧obj≠2 then 5
 else if off % 2 ^ bits.toNat≠0∨2 ^ c.bits.toNat - cnt * 2 ^ bits.toNat < off∨(obj=1∧c.bits≤bits) then 6
 else 0
def Wf (c:Cap) (obj bits level width off cnt:Int):List (List AV):=
 if ZcN c obj bits level width off cnt=0 then YX obj (c.base+off) (2 ^ bits.toNat) bits c.rights (if obj=3 then width else 0) (if obj=3 then level else 0) c.device cnt.toNat else []
theorem Ziq {c:Cap} {obj bits level width off cnt e:Int} (he:e≠0) (h:ZcN c obj bits level width off cnt=e) :
  some (([] : List (List AV)),e)=some (Wf c obj bits level width off cnt,ZcN c obj bits level width off cnt):=by
 simp only [Wf,h,if_neg he]
theorem Zo8 {c:Cap} {obj bits off cnt:Int} (hc:VF c=true) (hs:VX obj bits=true) (h1:1≤cnt) (h2:cnt≤8) (h3:0≤off) :
  iop .shl .i64 1 bits=2 ^ bits.toNat∧iop .rem .i64 off (2 ^ bits.toNat)=off % 2 ^ bits.toNat∧iop .shl .i64 1 c.bits=2 ^ c.bits.toNat∧iop .mul .i64 cnt (2 ^ bits.toNat)=cnt * 2 ^ bits.toNat∧
   iop .sub .i64 (2 ^ c.bits.toNat) (cnt * 2 ^ bits.toNat)=2 ^ c.bits.toNat - cnt * 2 ^ bits.toNat∧(2:Int) ^ bits.toNat≠0∧0≤bits∧0≤c.bits∧0≤c.base∧c.base+2 ^ c.bits.toNat≤1099511627776∧
   0 < (2:Int) ^ bits.toNat∧(2:Int) ^ bits.toNat≤1099511627776∧(2:Int) ^ bits.toNat≤cnt * 2 ^ bits.toNat∧0 < (2:Int) ^ c.bits.toNat∧bits≤40∧c.bits≤40:=by
 obtain ⟨b1,b2⟩:=ZoC hs
 obtain ⟨r1,r2,r3,r4,r5⟩:=Zfu (Zqh hc)
 have p1:=Yy bits.toNat
 have p2:=Yy c.bits.toNat
 have q1:=Zi5 b2
 have q2:=Zi5 r2
 have m1:cnt * 2 ^ bits.toNat≤8 * 2 ^ bits.toNat:=Int.mul_le_mul_of_nonneg_right (by omega) (by omega)
 have m2:1 * 2 ^ bits.toNat≤cnt * 2 ^ bits.toNat:=Int.mul_le_mul_of_nonneg_right (by omega) (by omega)
 refine ⟨Zr6 (by omega),Zh3 (by omega),Zr6 (by omega),ZtV (by omega) (by omega),ZhC (by omega) (by omega),by omega,by omega,by omega,r3,r5,p1,q1,by omega,p2,b2,r2⟩
theorem ZiH {γ:Type} {p:Prop} {_:Decidable p} (h:p):(Zw p:Option γ→Option γ)=fun x=>x:=funext fun x=>Ze h x
theorem Zw4:∃ f,Zx=f+1+1+1+1+1+1:=⟨Zx - 6,by decide⟩
end Go.Proofs.YtljejgmcgddppaaGreat
end

section
namespace Go.Proofs.YtljejgmcgddppaaGreat
open Go Go.AM
set_option linter.unusedSimpArgs false
set_option linter.unusedVariables false
set_option maxRecDepth 100000
abbrev Zy9:List Sh:=[.int .i64,.int .i64,.int .i64]
def WA (i:Id):Bool:=decide (0≤i.core∧i.core < 32∧1≤i.op∧i.op≤1073741824∧0≤i.part∧i.part < 8)
theorem ZuH (a b c:Int):Zrh a b c=some (WA ⟨a,b,c⟩):=by
 rw [ZrN]
 repeat' split
 all_goals (refine congrArg some ?_; rw [Zi]; simp only [WA,CQ] at *; omega)
theorem ZA2 (a:Int):Zv6 a=some false:=by
 rw [ZpO]
 simp [cop]
def Zpm (a b:Int):Int:=if a < b then -1 else if b < a then 1 else 0
theorem ZAx (a b:Int):ZuR a b=some (Zpm a b):=by
 rw [ZqX]
 simp only [ZA2,Option.bind_some,Bool.false_eq_true,if_false]
 by_cases h1:a < b
 ·rw [if_pos (by simp only [CQ]; omega),Zpm,if_pos h1]
 ·by_cases h2:b < a
  ·rw [if_neg (by simp only [CQ]; omega),if_pos (by simp only [CQ]; omega),Zpm,if_neg h1,if_pos h2]
  ·rw [if_neg (by simp only [CQ]; omega),if_neg (by simp only [CQ]; omega),Zpm,if_neg h1,if_neg h2]
def WT (x y z:Int):Int:=if x≠0 then x else if y≠0 then y else z
theorem ZzE (x y z:Int):ZxC (((([] : List (List AV))++[[AV.val (.int .i64 x)]])++[[AV.val (.int .i64 y)]])++[[AV.val (.int .i64 z)]])=some (WT x y z):=by
 obtain ⟨f,hf⟩:=Zw4
 have e:(((([] : List (List AV))++[[AV.val (.int .i64 x)]])++[[AV.val (.int .i64 y)]])++[[AV.val (.int .i64 z)]]) = [ZhJ x,ZhJ y,ZhJ z]:=rfl
 have e1:iop .add .i64 0 1=1:=by decide
 have e2:iop .add .i64 1 1=2:=by decide
 have e3:iop .add .i64 2 1=3:=by decide
 have hl:(([ZhJ x,ZhJ y,ZhJ z] : List (List AV)).length:Int)=3:=rfl
 rw [Zqb,e,hf,hl]
 rw [Zaz,if_pos (by decide),ZaA (sh:=[.int .i64]) (cs:=ZhJ x) (r:=x) _ (by decide) rfl rfl]
 by_cases hx:x=0
 ·rw [if_neg (by simp only [CQ]; omega),e1,Zaz,if_pos (by decide),ZaA (sh:=[.int .i64]) (cs:=ZhJ y) (r:=y) _ (by decide) rfl rfl]
  by_cases hy:y=0
  ·rw [if_neg (by simp only [CQ]; omega),e2,Zaz,if_pos (by decide),ZaA (sh:=[.int .i64]) (cs:=ZhJ z) (r:=z) _ (by decide) rfl rfl]
   by_cases hz:z=0
   ·rw [if_neg (by simp only [CQ]; omega),e3,Zaz,if_neg (by decide)]
    simp [WT,hx,hy,hz]
   ·rw [if_pos (by simp only [CQ]; omega)]
    simp [WT,hx,hy]
  ·rw [if_pos (by simp only [CQ]; omega)]
   simp [WT,hx,hy]
 ·rw [if_pos (by simp only [CQ]; omega)]
  simp [WT,hx]
theorem ZAh (a b c d e f:Int):ZxK a b c d e f=some (WT (Zpm a d) (Zpm b e) (Zpm c f)):=by
 rw [ZrY]
 simp only [ZAx,Option.bind_some,ZzE]
def Zsk (a b c d e f:Int):Bool:=decide (a < d∨(a=d∧(b < e∨(b=e∧c < f))))
theorem Zy8 (a b c d e f:Int):ZvL a b c d e f=some (Zsk a b c d e f):=by
 rw [ZqP,ZAh,Option.bind_some]
 refine congrArg some ?_
 rw [Zi]
 simp only [Zsk,CQ,Zpm,WT]
 repeat' split
 all_goals omega
theorem ZY (l:List Id):(Zb l).length=l.length:=by simp [Zb]
theorem Zjw (l:List Id) (n:Nat):(Zb l).take n=Zb (l.take n):=by simp [Zb,List.map_take]
theorem Zs3 {l:List Id} {i:Nat} {x:Id} (h:l[i]? = some x):(Zb l)[i]? = some (idc x):=by simp [Zb,h]
theorem WU {γ:Type} {l:List Id} {i:Int} {x:Id} (k:(Int×Int×Int)→Option γ) (h0:0≤i) (h:l[i.toNat]? = some x):Zl (Zb l) i Zy9 k=k (x.core,x.op,x.part):=
 ZaA (sh:=Zy9) (r:=(x.core,x.op,x.part)) k h0 (Zs3 h) rfl
theorem Yc (a b c d e f:Int):((cop .eql a d&&(cop .eql b e&&(cop .eql c f&&true)))=true)↔((⟨a,b,c⟩:Id)=⟨d,e,f⟩):=by
 simp only [CQ,Id.mk.injEq,and_true]
theorem Zz4 {l:List Id} (hl:l.length < 2 ^ 63) (a b c:Int):∀ (j i fuel:Nat),l.length=i+j→j < fuel→∃ r,Zf6 fuel (Zb l) a b c (l.length:Int) i=some r∧(0≤r↔(⟨a,b,c⟩:Id)∈l.drop i):=by
 intro j
 induction j with
 | zero =>
  intro i fuel h hf
  obtain ⟨f,rfl⟩:∃ f,fuel=f+1:=⟨fuel - 1,by omega⟩
  refine ⟨-1,by rw [Zhw,if_neg (by simp only [CQ]; omega)],?_⟩
  rw [List.drop_of_length_le (by omega)]
  simp
 | succ j ih =>
  intro i fuel h hf
  obtain ⟨f,rfl⟩:∃ f,fuel=f+1:=⟨fuel - 1,by omega⟩
  have hi:i < l.length:=by omega
  have hat:l[(i:Int).toNat]? = some l[i]:=by simp
  have a4:iop .add .i64 i 1=((i+1:Nat):Int):=by rw [Kh (by omega) (by omega)]; omega
  rw [Zhw,if_pos (by simp only [CQ]; omega),WU _ (by omega) hat,a4,List.drop_eq_getElem_cons hi]
  by_cases he:(⟨a,b,c⟩:Id)=l[i]
  ·refine ⟨i,?_,?_⟩
   ·rw [if_pos]
    rw [Yc]
    exact he
   ·rw [List.mem_cons]
    exact ⟨fun _=>.inl he,fun _=>by omega⟩
  ·obtain ⟨r,h1,h2⟩:=ih (i+1) f (by omega) (by omega)
   refine ⟨r,?_,?_⟩
   ·rw [if_neg,h1]
    rw [Yc]
    exact he
   ·rw [h2,List.mem_cons]
    simp [he]
theorem s76 (l:List Id) (hl:l.length < 2 ^ 63) (a b c:Int):g76 (Zb l) a b c=some (l.contains ⟨a,b,c⟩):=by
 obtain ⟨r,h1,h2⟩:=Zz4 hl a b c l.length 0 Zx (by omega) (Zbf (by omega))
 rw [ZsD,ZrT,ZY]
 have h1':Zf6 Zx (Zb l) a b c (l.length:Int) 0=some r:=h1
 rw [h1',Option.bind_some]
 refine congrArg some ?_
 rw [Zi]
 simp only [CQ,List.contains_iff_mem]
 rw [List.drop_zero] at h2
 exact h2
structure Y5 where
 id:Id
 path:List Id
 cap:Cap
def Vx (n:Y5) (i:Nat):Bool:=match n.path[i]? with | none=>true | some x=>WA x&&decide (x≠n.id)&&!(n.path.take i).contains x
def ZF (n:Y5):Bool:=WA n.id&&VF n.cap&&decide (n.path.length≤8)&&(List.range n.path.length).all (Vx n)
theorem ZAs (n:Y5) (hl:n.path.length < 2 ^ 63):∀ (j i fuel:Nat),n.path.length=i+j→j < fuel→
  Zjm fuel n.id.core n.id.op n.id.part (Zb n.path) n.cap.kind n.cap.base n.cap.bits n.cap.rights n.cap.width n.cap.level n.cap.device (Zb n.path) (n.path.length:Int) i=some ((List.range' i j).all (Vx n)):=by
 intro j
 induction j with
 | zero =>
  intro i fuel h hf
  obtain ⟨f,rfl⟩:∃ f,fuel=f+1:=⟨fuel - 1,by omega⟩
  rw [Zhx,if_neg (by simp only [CQ]; omega)]
  rfl
 | succ j ih =>
  intro i fuel h hf
  obtain ⟨f,rfl⟩:∃ f,fuel=f+1:=⟨fuel - 1,by omega⟩
  have hi:i < n.path.length:=by omega
  have hat:n.path[(i:Int).toNat]? = some n.path[i]:=by simp
  have a4:iop .add .i64 i 1=((i+1:Nat):Int):=by rw [Kh (by omega) (by omega)]; omega
  have hp:Vx n i=(WA n.path[i]&&decide (n.path[i]≠n.id)&&!(n.path.take i).contains n.path[i]):=by
   unfold Vx
   rw [List.getElem?_eq_getElem hi]
  have hlt:(n.path.take i).length < 2 ^ 63:=by rw [List.length_take]; omega
  rw [Zhx,if_pos (by simp only [CQ]; omega),WU _ (by omega) hat,a4,List.range'_succ,List.all_cons,hp]
  simp only [ZuH,Option.bind_some]
  cases h1:WA n.path[i] with
  | false => simp
  | true =>
   rw [if_neg (by simp)]
   by_cases h2:n.path[i]=n.id
   ·rw [if_pos (by rw [Yc]; exact h2)]
    simp [h2]
   ·rw [if_neg (by rw [Yc]; exact h2),Ze (by omega),Ze (by rw [ZY]; omega),Int.toNat_natCast,Zjw,s76 _ hlt,Option.bind_some]
    cases h3:(n.path.take i).contains n.path[i] with
    | true => simp
    | false =>
     rw [if_neg (by simp)]
     have:=ih (i+1) f (by omega) (by omega)
     rw [this]
     simp [h2]
theorem ZtO (n:Y5) (hl:n.path.length < 2 ^ 63):Zpt n.id.core n.id.op n.id.part (Zb n.path) n.cap.kind n.cap.base n.cap.bits n.cap.rights n.cap.width n.cap.level n.cap.device=some (ZF n):=by
 rw [ZqQ]
 simp only [ZuH,Zz5,Option.bind_some,ZY]
 unfold ZF
 cases h1:WA n.id with
 | false => simp [show (⟨n.id.core, n.id.op, n.id.part⟩ : Id) = n.id from rfl, h1]
 | true =>
  cases h2:VF n.cap with
  | false => simp [show (⟨n.id.core, n.id.op, n.id.part⟩ : Id) = n.id from rfl, h1, show (⟨n.cap.kind, n.cap.base, n.cap.bits, n.cap.rights, n.cap.width, n.cap.level, n.cap.device⟩ : Cap) = n.cap from rfl, h2]
  | true =>
   rw [if_neg (by simp),if_neg (by simp)]
   by_cases h3:n.path.length≤8
   ·rw [if_neg (by simp only [CQ]; omega)]
    have:=ZAs n hl n.path.length 0 Zx (by omega) (Zbf (by omega))
    have e:(List.range' 0 n.path.length)=List.range n.path.length:=(List.range_eq_range' ..).symm
    rw [e] at this
    refine this.trans ?_
    simp [h3]
   ·rw [if_pos (by simp only [CQ]; omega)]
    simp [h3]
end Go.Proofs.YtljejgmcgddppaaGreat
end

section
namespace Go.Proofs.YtljejgmcgddppaaGreat
open Go Go.AM
set_option linter.unusedSimpArgs false
set_option linter.unusedVariables false
set_option maxRecDepth 100000
theorem s88 (a b c:Int):g88 a b c=some (WA ⟨a,b,c⟩):=by
 rw [Zss]
 repeat' split
 all_goals (refine congrArg some ?_; rw [Zi]; simp only [WA,CQ] at *; omega)
theorem l18 {l:List Id} (hl:l.length < 2 ^ 63) (a b c:Int):∀ (j i fuel:Nat),l.length=i+j→j < fuel→ZnV fuel (Zb l) a b c i=some ((l.drop i).contains ⟨a,b,c⟩):=by
 intro j
 induction j with
 | zero =>
  intro i fuel h hf
  obtain ⟨f,rfl⟩:∃ f,fuel=f+1:=⟨fuel - 1,by omega⟩
  rw [ZiT,if_neg (by simp only [CQ,ZY]; omega),List.drop_of_length_le (by omega)]
  rfl
 | succ j ih =>
  intro i fuel h hf
  obtain ⟨f,rfl⟩:∃ f,fuel=f+1:=⟨fuel - 1,by omega⟩
  have hi:i < l.length:=by omega
  have hat:l[(i:Int).toNat]? = some l[i]:=by simp
  have a4:iop .add .i64 i 1=((i+1:Nat):Int):=by rw [Kh (by omega) (by omega)]; omega
  rw [ZiT,if_pos (by simp only [CQ,ZY]; omega),WU _ (by omega) hat,a4,List.drop_eq_getElem_cons hi,List.contains_cons]
  by_cases he:l[i]=(⟨a,b,c⟩:Id)
  ·rw [if_pos (by rw [Yc]; exact he)]
   simp [he]
  ·rw [if_neg (by rw [Yc]; exact he),ih (i+1) f (by omega) (by omega)]
   have:((⟨a,b,c⟩:Id) == l[i])=false:=by simp; exact fun h=>he h.symm
   rw [this,Bool.false_or]
theorem s18 (l:List Id) (hl:l.length < 2 ^ 63) (a b c:Int):g18 (Zb l) a b c=some (l.contains ⟨a,b,c⟩):=by
 have:=l18 hl a b c l.length 0 Zx (by omega) (Zbf (by omega))
 rw [ZuQ]
 exact this
def ZbH (n:Y5) (i:Nat):Bool:=match n.path[i]? with | none=>true | some x=>WA x&&!(n.path.take i).contains x
theorem Zll (n:Y5):ZF n=(WA n.id&&VF n.cap&&decide (n.path.length≤8)&&(!n.path.contains n.id&&(List.range n.path.length).all (ZbH n))):=by
 unfold ZF
 congr 1
 rw [Zi]
 simp only [Bool.and_eq_true,List.all_eq_true,List.mem_range,Bool.not_eq_true',← Bool.not_eq_true,List.contains_iff_mem]
 constructor
 ·intro h
  refine ⟨fun hc=>?_,fun i hi=>?_⟩
  ·obtain ⟨i,hi⟩:=List.mem_iff_getElem?.1 hc
   have:=h i (List.getElem?_eq_some_iff.1 hi).1
   unfold Vx at this
   rw [hi] at this
   simp at this
  ·have:=h i hi
   unfold Vx at this
   unfold ZbH
   rw [List.getElem?_eq_getElem hi] at this ⊢
   simp only [Bool.and_eq_true] at this ⊢
   exact ⟨this.1.1,this.2⟩
 ·intro ⟨h1,h2⟩ i hi
  have:=h2 i hi
  unfold ZbH at this
  unfold Vx
  rw [List.getElem?_eq_getElem hi] at this ⊢
  simp only [Bool.and_eq_true,decide_eq_true_eq] at this ⊢
  exact ⟨⟨this.1,fun he=>h1 (he ▸ List.getElem_mem hi)⟩,this.2⟩
theorem l87 (n:Y5) (hl:n.path.length < 2 ^ 63):∀ (j i fuel:Nat),n.path.length=i+j→j < fuel→
  Zo2 fuel n.id.core n.id.op n.id.part (Zb n.path) n.cap.kind n.cap.base n.cap.bits n.cap.rights n.cap.width n.cap.level n.cap.device i=some ((List.range' i j).all (ZbH n)):=by
 intro j
 induction j with
 | zero =>
  intro i fuel h hf
  obtain ⟨f,rfl⟩:∃ f,fuel=f+1:=⟨fuel - 1,by omega⟩
  rw [ZjZ,if_neg (by simp only [CQ,ZY]; omega)]
  rfl
 | succ j ih =>
  intro i fuel h hf
  obtain ⟨f,rfl⟩:∃ f,fuel=f+1:=⟨fuel - 1,by omega⟩
  have hi:i < n.path.length:=by omega
  have hat:n.path[(i:Int).toNat]? = some n.path[i]:=by simp
  have a4:iop .add .i64 i 1=((i+1:Nat):Int):=by rw [Kh (by omega) (by omega)]; omega
  have hp:ZbH n i=(WA n.path[i]&&!(n.path.take i).contains n.path[i]):=by
   unfold ZbH
   rw [List.getElem?_eq_getElem hi]
  have hlt:(n.path.take i).length < 2 ^ 63:=by rw [List.length_take]; omega
  rw [ZjZ,if_pos (by simp only [CQ,ZY]; omega),WU _ (by omega) hat,a4,List.range'_succ,List.all_cons,hp]
  simp only [s88,Option.bind_some]
  cases h1:WA n.path[i] with
  | false => simp
  | true =>
   rw [if_neg (by simp),Ze (by omega),Ze (by rw [ZY]; omega),WU _ (by omega) hat,Int.toNat_natCast,Zjw,s18 _ hlt,Option.bind_some]
   cases h3:(n.path.take i).contains n.path[i] with
   | true => simp
   | false =>
    rw [if_neg (by simp)]
    have:=ih (i+1) f (by omega) (by omega)
    rw [this]
    simp
theorem s87 (n:Y5) (hl:n.path.length < 2 ^ 63):g87 n.id.core n.id.op n.id.part (Zb n.path) n.cap.kind n.cap.base n.cap.bits n.cap.rights n.cap.width n.cap.level n.cap.device=some (ZF n):=by
 rw [Zuw,Zll]
 simp only [s88,s84,Option.bind_some,ZY,s18 _ hl]
 cases h1:WA n.id with
 | false => simp [show (⟨n.id.core, n.id.op, n.id.part⟩ : Id) = n.id from rfl, h1]
 | true =>
  cases h2:VF n.cap with
  | false => simp [show (⟨n.id.core, n.id.op, n.id.part⟩ : Id) = n.id from rfl, h1, show (⟨n.cap.kind, n.cap.base, n.cap.bits, n.cap.rights, n.cap.width, n.cap.level, n.cap.device⟩ : Cap) = n.cap from rfl, h2]
  | true =>
   rw [if_neg (by simp),if_neg (by simp)]
   by_cases h3:n.path.length≤8
   ·rw [if_neg (by simp only [CQ]; omega)]
    cases h4:n.path.contains n.id with
    | true => simp
    | false =>
     rw [if_neg (by simp)]
     have:=l87 n hl n.path.length 0 Zx (by omega) (Zbf (by omega))
     have e:(List.range' 0 n.path.length)=List.range n.path.length:=(List.range_eq_range' ..).symm
     rw [e] at this
     refine this.trans ?_
     simp [h3]
   ·rw [if_pos (by simp only [CQ]; omega)]
    simp [h3]
theorem l46 {l m:List Id} (hl:l.length < 2 ^ 63) (hm:l.length=m.length):∀ (j i fuel:Nat),l.length=i+j→j < fuel→ZoD fuel (Zb l) (Zb m) i=some (decide (l.drop i=m.drop i)):=by
 intro j
 induction j with
 | zero =>
  intro i fuel h hf
  obtain ⟨f,rfl⟩:∃ f,fuel=f+1:=⟨fuel - 1,by omega⟩
  rw [Zj0,if_neg (by simp only [CQ,ZY]; omega),List.drop_of_length_le (by omega),List.drop_of_length_le (by omega)]
  rfl
 | succ j ih =>
  intro i fuel h hf
  obtain ⟨f,rfl⟩:∃ f,fuel=f+1:=⟨fuel - 1,by omega⟩
  have hi:i < l.length:=by omega
  have hi':i < m.length:=by omega
  have hat:l[(i:Int).toNat]? = some l[i]:=by simp
  have hat':m[(i:Int).toNat]? = some m[i]:=by simp
  have a4:iop .add .i64 i 1=((i+1:Nat):Int):=by rw [Kh (by omega) (by omega)]; omega
  rw [Zj0,if_pos (by simp only [CQ,ZY]; omega),WU _ (by omega) hat,WU _ (by omega) hat',a4,List.drop_eq_getElem_cons hi,List.drop_eq_getElem_cons hi']
  by_cases he:l[i]=m[i]
  ·rw [if_neg (by rw [Bool.not_eq_true',← Bool.not_eq_true,Yc]; exact fun h=>h he),ih (i+1) f (by omega) (by omega)]
   simp only [he,List.cons.injEq,true_and]
  ·rw [if_pos (by rw [Bool.not_eq_true',← Bool.not_eq_true,Yc]; exact he)]
   simp only [List.cons.injEq,he,false_and,decide_false]
theorem s46 (l m:List Id) (hl:l.length < 2 ^ 63) (hm:m.length < 2 ^ 63):g46 (Zb l) (Zb m)=some (decide (l=m)):=by
 rw [Zsu,ZY,ZY]
 by_cases h:l.length=m.length
 ·rw [if_neg (by simp only [CQ]; omega)]
  have:=l46 hl h l.length 0 Zx (by omega) (Zbf (by omega))
  rw [List.drop_zero,List.drop_zero] at this
  exact this
 ·rw [if_pos (by simp only [CQ]; omega)]
  have:¬ l=m:=fun he=>h (by rw [he])
  simp [this]
end Go.Proofs.YtljejgmcgddppaaGreat
end

section
namespace Go.Proofs.YtljejgmcgddppaaGreat
open Go Go.AM
set_option linter.unusedSimpArgs false
set_option linter.unusedVariables false
set_option maxRecDepth 100000
theorem JK {n:Nat} (h:n < 2 ^ 63):n+1 < Zx:=by
 have:(2:Nat) ^ 64≤Zx:=by decide
 omega
theorem ZQ {i n:Nat} (h:i < n) (hn:n < 2 ^ 63):iop .add .i64 (i:Int) 1=((i+1:Nat):Int):=by
 rw [Kh (by omega) (by omega)]; omega
theorem ZX {i n:Nat} (h:i < n):(cop .lss (i:Int) (n:Int))=true:=by
 simp only [CQ]; omega
theorem ZZ {i n:Nat} (h:n≤i):¬ (cop .lss (i:Int) (n:Int))=true:=by
 simp only [CQ]; omega
theorem ZL {γ:Type} {F:Nat→Int→Option γ} {n:Nat} {fin bad:Option γ} (p:Nat→Bool) (hn:n < 2 ^ 63) (i0:Nat) (hi0:i0≤1)
  (step:∀ k i:Nat,i0≤i→i < n→F (k+1) (i:Int)=if p i=true then F k ((i+1:Nat):Int) else bad)
  (last:∀ k i:Nat,n≤i→F (k+1) (i:Int)=fin):F Zx (i0:Int)=if (List.range' i0 (n - i0)).all p=true then fin else bad:=by
 have key:∀ (j i fuel:Nat),i0≤i→n≤i+j→j < fuel→F fuel (i:Int)=if (List.range' i (n - i)).all p=true then fin else bad:=by
  intro j
  induction j with
  | zero =>
   intro i fuel h0 h hf
   obtain ⟨f,rfl⟩:∃ f,fuel=f+1:=⟨fuel - 1,by omega⟩
   rw [last f i (by omega),show n - i=0 by omega]
   rfl
  | succ j ih =>
   intro i fuel h0 h hf
   obtain ⟨f,rfl⟩:∃ f,fuel=f+1:=⟨fuel - 1,by omega⟩
   by_cases hi:i < n
   ·rw [step f i h0 hi,show n - i=(n - (i+1))+1 by omega,List.range'_succ,List.all_cons]
    cases hp:p i with
    | true => rw [if_pos rfl, ih (i + 1) f (by omega) (by omega) (by omega), Bool.true_and]
    | false => rw [if_neg Bool.false_ne_true, Bool.false_and, if_neg Bool.false_ne_true]
   ·rw [last f i (by omega),show n - i=0 by omega]
    rfl
 exact key n i0 Zx (Nat.le_refl _) (by omega) (by have:=JK hn; omega)
theorem Yx {F:Nat→Int→Option Int} {n:Nat} (p:Nat→Bool) (hn:n < 2 ^ 63)
  (step:∀ k i:Nat,i < n→F (k+1) (i:Int)=if p i=true then some (i:Int) else F k ((i+1:Nat):Int))
  (last:∀ k i:Nat,n≤i→F (k+1) (i:Int)=some (-1)):∃ r,F Zx 0=some r∧cop .geq r 0=(List.range' 0 n).any p:=by
 have key:∀ (j i fuel:Nat),n≤i+j→j < fuel→∃ r,F fuel (i:Int)=some r∧cop .geq r 0=(List.range' i (n - i)).any p:=by
  intro j
  induction j with
  | zero =>
   intro i fuel h hf
   obtain ⟨f,rfl⟩:∃ f,fuel=f+1:=⟨fuel - 1,by omega⟩
   rw [last f i (by omega),show n - i=0 by omega]
   exact ⟨_,rfl,rfl⟩
  | succ j ih =>
   intro i fuel h hf
   obtain ⟨f,rfl⟩:∃ f,fuel=f+1:=⟨fuel - 1,by omega⟩
   by_cases hi:i < n
   ·rw [step f i hi,show n - i=(n - (i+1))+1 by omega,List.range'_succ,List.any_cons]
    cases hp:p i with
    | true =>
     rw [if_pos rfl,Bool.true_or]
     refine ⟨_,rfl,?_⟩
     simp only [CQ]
     omega
    | false => rw [if_neg Bool.false_ne_true, Bool.false_or]; exact ih (i + 1) f (by omega) (by omega)
   ·rw [last f i (by omega),show n - i=0 by omega]
    exact ⟨_,rfl,rfl⟩
 have:=key n 0 Zx (by omega) (by have:=JK hn; omega)
 simpa using this
def atB {α:Type} (q:α→Bool) (l:List α) (i:Nat):Bool:=match l[i]? with | some x=>q x | none=>true
theorem Ja {α:Type} (q:α→Bool) {l:List α} {i:Nat} (h:i < l.length):atB q l i=q l[i]:=by
 unfold atB
 rw [List.getElem?_eq_getElem h]
theorem ZeK {α:Type} (q:α→Bool) (l:List α):(List.range' 0 l.length).all (atB q l)=l.all q:=by
 rw [Zi,List.all_eq_true,List.all_eq_true]
 constructor
 ·intro h x hx
  obtain ⟨i,hi,rfl⟩:=List.getElem_of_mem hx
  have:=h i (by simp [List.mem_range',hi])
  rwa [Ja q hi] at this
 ·intro h i hi
  have hi':i < l.length:=by simpa [List.mem_range'] using hi
  rw [Ja q hi']
  exact h _ (List.getElem_mem hi')
theorem VU {α:Type} (q:α→Bool) (l:List α):(List.range' 0 l.length).any (fun i=>!atB q l i) = !(l.all q):=by
 rw [← ZeK q l,List.any_eq_not_all_not]
 simp
def Vn {α:Type} (lt:α→α→Bool) (l:List α):Nat→Bool
 | 0 => true
 | j + 1 => match l[j]?, l[j + 1]? with | some a, some b => lt a b | _, _ => true
def KL {α:Type} (lt:α→α→Bool) (l:List α):Bool:=(List.range' 0 l.length).all (Vn lt l)
theorem Kb {α:Type} (lt:α→α→Bool) {l:List α} {j:Nat} (h:j+1 < l.length):Vn lt l (j+1)=lt l[j] l[j+1]:=by
 show (match l[j]?,l[j+1]? with | some a,some b=>lt a b | _,_=>true)=_
 rw [List.getElem?_eq_getElem h,List.getElem?_eq_getElem (show j < l.length by omega)]
theorem ZuI {α:Type} (lt:α→α→Bool) (l:List α):(List.range' 1 (l.length - 1)).all (Vn lt l)=KL lt l:=by
 unfold KL
 cases l with
 | nil => rfl
 | cons a r => rw [show (a :: r).length = ((a :: r).length - 1) + 1 from rfl, List.range'_succ, List.all_cons]; rfl
theorem ZpM {α:Type} (l:List α) (p q:α→Bool):l.all (fun i=>p i&&q i)=(l.all p&&l.all q):=by
 induction l with
 | nil => rfl
 | cons a r ih => simp only [List.all_cons, ih]; cases p a <;> cases q a <;> cases r.all p <;> rfl
theorem ZcA {α:Type} (q:α→Bool) (lt:α→α→Bool) (l:List α):(List.range' 0 l.length).all (fun i=>atB q l i&&Vn lt l i)=(l.all q&&KL lt l):=by
 rw [ZpM,ZeK]; rfl
structure Call where
 kind:Int
 slot:Int
 dest:Int
 core:Int
 mask:Int
 object:Int
 bits:Int
 level:Int
 offset:Int
 count:Int
 index:Int
 addr:Int
structure Req where
 id:Id
 call:Call
 region:Int
 width:Int
 src:Y5
structure Jp where
 node:Y5
 op:Int
 lock:Id
structure YD where
 region:Int
 op:Id
structure Ans where
 op:Int
 err:Int
structure ZG where
 core:Int
 slot:Int
 node:Y5
structure Zi1 where
 region:Int
 to:Int
structure View where
 number:Int
 members:List Int
 owners:List Int
structure State where
 slots:List Jp
 pending:List Req
 marks:List YD
 answers:List Ans
 entries:List ZG
 commits:List Id
structure Report where
 core:Int
 view:View
 state:State
 ready:Bool
 next:View
 proposal:State
def Js (n:Y5):List AV:=[I n.id.core,I n.id.op,I n.id.part,.slice false 3 (Zb n.path),I n.cap.kind,I n.cap.base,I n.cap.bits,I n.cap.rights,I n.cap.width,I n.cap.level,B n.cap.device]
def ZM (r:Req):List AV:=[I r.id.core,I r.id.op,I r.id.part,I r.call.kind,I r.call.slot,I r.call.dest,I r.call.core,I r.call.mask,I r.call.object,I r.call.bits,I r.call.level,I r.call.offset,I r.call.count,I r.call.index,I r.call.addr,I r.region,I r.width,I r.src.id.core,I r.src.id.op,I r.src.id.part,.slice false 3 (Zb r.src.path),I r.src.cap.kind,I r.src.cap.base,I r.src.cap.bits,I r.src.cap.rights,I r.src.cap.width,I r.src.cap.level,B r.src.cap.device]
def Zg (s:Jp):List AV:=[I s.node.id.core,I s.node.id.op,I s.node.id.part,.slice false 3 (Zb s.node.path),I s.node.cap.kind,I s.node.cap.base,I s.node.cap.bits,I s.node.cap.rights,I s.node.cap.width,I s.node.cap.level,B s.node.cap.device,I s.op,I s.lock.core,I s.lock.op,I s.lock.part]
def Zj (m:YD):List AV:=[I m.region,I m.op.core,I m.op.op,I m.op.part]
def ZS (a:Ans):List AV:=[I a.op,I a.err]
def Jt (a:Zi1):List AV:=[I a.region,I a.to]
def Zd (e:ZG):List AV:=[I e.core,I e.slot,I e.node.id.core,I e.node.id.op,I e.node.id.part,.slice false 3 (Zb e.node.path),I e.node.cap.kind,I e.node.cap.base,I e.node.cap.bits,I e.node.cap.rights,I e.node.cap.width,I e.node.cap.level,B e.node.cap.device]
abbrev ZlC:List Sh:=[.int .i64,.int .i64,.int .i64,.slice 3,.int .i64,.int .i64,.int .i64,.int .i64,.int .i64,.int .i64,.bool]
abbrev Zrw:List Sh:=[.int .i64,.int .i64,.int .i64,.int .i64,.int .i64,.int .i64,.int .i64,.int .i64,.int .i64,.int .i64,.int .i64,.int .i64,.int .i64,.int .i64,.int .i64,.int .i64,.int .i64,.int .i64,.int .i64,.int .i64,.slice 3,.int .i64,.int .i64,.int .i64,.int .i64,.int .i64,.int .i64,.bool]
abbrev Zc2:List Sh:=[.int .i64,.int .i64,.int .i64,.slice 3,.int .i64,.int .i64,.int .i64,.int .i64,.int .i64,.int .i64,.bool,.int .i64,.int .i64,.int .i64,.int .i64]
abbrev Zc1:List Sh:=[.int .i64,.int .i64,.int .i64,.int .i64,.int .i64,.slice 3,.int .i64,.int .i64,.int .i64,.int .i64,.int .i64,.int .i64,.bool]
def ZfR (n:Y5):ShsT ZlC:=(n.id.core,n.id.op,n.id.part,Zb n.path,n.cap.kind,n.cap.base,n.cap.bits,n.cap.rights,n.cap.width,n.cap.level,n.cap.device)
def Zq0 (r:Req):ShsT Zrw:=(r.id.core,r.id.op,r.id.part,r.call.kind,r.call.slot,r.call.dest,r.call.core,r.call.mask,r.call.object,r.call.bits,r.call.level,r.call.offset,r.call.count,r.call.index,r.call.addr,r.region,r.width,r.src.id.core,r.src.id.op,r.src.id.part,Zb r.src.path,r.src.cap.kind,r.src.cap.base,r.src.cap.bits,r.src.cap.rights,r.src.cap.width,r.src.cap.level,r.src.cap.device)
def Yd (s:Jp):ShsT Zc2:=(s.node.id.core,s.node.id.op,s.node.id.part,Zb s.node.path,s.node.cap.kind,s.node.cap.base,s.node.cap.bits,s.node.cap.rights,s.node.cap.width,s.node.cap.level,s.node.cap.device,s.op,s.lock.core,s.lock.op,s.lock.part)
def Yb (e:ZG):ShsT Zc1:=(e.core,e.slot,e.node.id.core,e.node.id.op,e.node.id.part,Zb e.node.path,e.node.cap.kind,e.node.cap.base,e.node.cap.bits,e.node.cap.rights,e.node.cap.width,e.node.cap.level,e.node.cap.device)
theorem J4 {α γ:Type} {f:α→List AV} {sh:List Sh} {v:α→ShsT sh} (hf:∀ x,Zly sh (f x)=some (v x)) {l:List α} {i:Nat} (h:i < l.length) (k:ShsT sh→Option γ):Zl (l.map f) (i:Int) sh k=k (v l[i]):=by
 refine ZaA k (by omega) (cs:=f l[i]) ?_ (hf _)
 rw [Int.toNat_natCast,List.getElem?_map,List.getElem?_eq_getElem h]
 rfl
theorem Yu {γ:Type} {l:List Y5} {i:Nat} (h:i < l.length) (k:ShsT ZlC→Option γ):Zl (l.map Js) (i:Int) ZlC k=k (ZfR l[i]):=J4 (fun _=>rfl) h k
theorem J9 {γ:Type} {l:List Req} {i:Nat} (h:i < l.length) (k:ShsT Zrw→Option γ):Zl (l.map ZM) (i:Int) Zrw k=k (Zq0 l[i]):=J4 (fun _=>rfl) h k
theorem ZN {γ:Type} {l:List Jp} {i:Nat} (h:i < l.length) (k:ShsT Zc2→Option γ):Zl (l.map Zg) (i:Int) Zc2 k=k (Yd l[i]):=J4 (fun _=>rfl) h k
theorem Zt {γ:Type} {l:List ZG} {i:Nat} (h:i < l.length) (k:ShsT Zc1→Option γ):Zl (l.map Zd) (i:Int) Zc1 k=k (Yb l[i]):=J4 (fun _=>rfl) h k
theorem Jc {γ:Type} {l:List YD} {i:Nat} (h:i < l.length) (k:(Int×Int×Int×Int)→Option γ):Zl (l.map Zj) (i:Int) [.int .i64,.int .i64,.int .i64,.int .i64] k=k (l[i].region,l[i].op.core,l[i].op.op,l[i].op.part):=J4 (sh:=[.int .i64,.int .i64,.int .i64,.int .i64]) (v:=fun x=>(x.region,x.op.core,x.op.op,x.op.part)) (fun _=>rfl) h k
theorem Yk {γ:Type} {l:List Ans} {i:Nat} (h:i < l.length) (k:(Int×Int)→Option γ):Zl (l.map ZS) (i:Int) [.int .i64,.int .i64] k=k (l[i].op,l[i].err):=J4 (sh:=[.int .i64,.int .i64]) (v:=fun x=>(x.op,x.err)) (fun _=>rfl) h k
theorem YN {γ:Type} {l:List Zi1} {i:Nat} (h:i < l.length) (k:(Int×Int)→Option γ):Zl (l.map Jt) (i:Int) [.int .i64,.int .i64] k=k (l[i].region,l[i].to):=J4 (sh:=[.int .i64,.int .i64]) (v:=fun x=>(x.region,x.to)) (fun _=>rfl) h k
theorem Wi {γ:Type} {l:List Id} {i:Nat} (h:i < l.length) (k:(Int×Int×Int)→Option γ):Zl (Zb l) (i:Int) [.int .i64,.int .i64,.int .i64] k=k (l[i].core,l[i].op,l[i].part):=J4 (f:=idc) (sh:=[.int .i64,.int .i64,.int .i64]) (v:=fun x=>(x.core,x.op,x.part)) (fun _=>rfl) h k
theorem ZW {γ:Type} {l:List Int} {i:Nat} (h:i < l.length) (k:Int→Option γ):Zl (Za l) (i:Int) [.int .i64] k=k l[i]:=J4 (f:=ZhJ) (sh:=[.int .i64]) (v:=fun x=>x) (fun _=>rfl) h k
theorem Ke (i:Id):(⟨i.core,i.op,i.part⟩:Id)=i:=rfl
end Go.Proofs.YtljejgmcgddppaaGreat
end

section
namespace Go.Proofs.YtljejgmcgddppaaGreat
open Go Go.AM
set_option linter.unusedSimpArgs false
set_option linter.unusedVariables false
set_option maxRecDepth 100000
def Zs (z:Int):Bool:=decide (0≤z∧z < 32)
def Z2 (z:Int):Bool:=decide (0≤z∧z < 16)
def Jr (z:Int):Bool:=decide (0≤z∧z < 64)
def Zc8 (z:Int):Bool:=decide (0≤z∧z≤99)
def ZbS (i:Id):Bool:=WA i&&decide (i.part=0)
theorem s67 (z:Int):g67 z=some (Zs z):=by
 rw [Ztk]
 repeat' split
 all_goals (refine congrArg some ?_; rw [Zi]; simp only [Zs,CQ] at *; omega)
theorem s90 (z:Int):g90 z=some (Zs z):=by
 rw [Zsp]
 repeat' split
 all_goals (refine congrArg some ?_; rw [Zi]; simp only [Zs,CQ] at *; omega)
theorem Zvv (z:Int):Zr4 z=some (Z2 z):=by
 rw [Zq7]
 repeat' split
 all_goals (refine congrArg some ?_; rw [Zi]; simp only [Z2,CQ] at *; omega)
theorem ZtT (z:Int):Zro z=some (Z2 z):=by
 rw [ZqB]
 repeat' split
 all_goals (refine congrArg some ?_; rw [Zi]; simp only [Z2,CQ] at *; omega)
theorem Zy2 (z:Int):ZvK z=some (Jr z):=by
 rw [ZqR]
 repeat' split
 all_goals (refine congrArg some ?_; rw [Zi]; simp only [Jr,CQ] at *; omega)
theorem ZyR (z:Int):Zwb z=some (Zc8 z):=by
 rw [Zrx]
 repeat' split
 all_goals (refine congrArg some ?_; rw [Zi]; simp only [Zc8,CQ] at *; omega)
theorem s93 (z:Int):g93 z=some (Zc8 z):=by
 rw [ZtL]
 repeat' split
 all_goals (refine congrArg some ?_; rw [Zi]; simp only [Zc8,CQ] at *; omega)
theorem Zwf (i:Id):Zsc i.core i.op i.part=some (ZbS i):=by
 rw [ZrR,ZuH,Option.bind_some,Ke]
 repeat' split
 all_goals (refine congrArg some ?_; rw [Zi]; simp only [ZbS,CQ] at *; grind)
theorem s92 (i:Id):g92 i.core i.op i.part=some (ZbS i):=by
 rw [ZtH,s88,Option.bind_some,Ke]
 repeat' split
 all_goals (refine congrArg some ?_; rw [Zi]; simp only [ZbS,CQ] at *; grind)
theorem ZzG {l m:List Id} (hl:l.length < 2 ^ 63) (h:l.length=m.length):ZcV Zx (Zb l) (Zb m) (l.length:Int) 0=some (decide (l=m)):=by
 have:=ZL (F:=fun k i=>ZcV k (Zb l) (Zb m) (l.length:Int) i) (n:=l.length) (fin:=some true) (bad:=some false) (fun i=>decide (l[i]? = m[i]?)) hl 0 (by omega)
  (fun k i _ hi=>by
   have hm:i < m.length:=by omega
   show ZcV (k+1) _ _ _ _=_
   rw [ZgB,if_pos (ZX hi),Wi hi,Wi hm,ZQ hi hl]
   rw [List.getElem?_eq_getElem hi,List.getElem?_eq_getElem hm]
   by_cases he:l[i]=m[i]
   ·rw [if_neg (by rw [Bool.not_eq_true',← Bool.not_eq_true,Yc]; exact fun h=>h he),if_pos (by simp [he])]
   ·rw [if_pos (by rw [Bool.not_eq_true',← Bool.not_eq_true,Yc]; exact he),if_neg (by simp [he])])
  (fun k i hi=>by show ZcV (k+1) _ _ _ _=_; rw [ZgB,if_neg (ZZ hi)])
 refine this.trans ?_
 have e:(List.range' 0 (l.length - 0)).all (fun i=>decide (l[i]? = m[i]?))=decide (l=m):=by
  rw [Zi,List.all_eq_true,decide_eq_true_eq]
  constructor
  ·intro hh
   refine List.ext_getElem? fun i=>?_
   by_cases hi:i < l.length
   ·exact of_decide_eq_true (hh i (by simp [List.mem_range',hi]))
   ·rw [List.getElem?_eq_none (by omega),List.getElem?_eq_none (by omega)]
  ·rintro rfl i _
   exact decide_eq_true rfl
 rw [e]
 cases decide (l=m) <;> rfl
theorem ZAa (l m:List Id) (hl:l.length < 2 ^ 63):Zye (Zb l) (Zb m)=some (decide (l=m)):=by
 rw [ZrZ,ZY,ZY]
 by_cases h:l.length=m.length
 ·rw [if_neg (by simp [cop,h]),ZzG hl h]
 ·rw [if_pos (by simp [cop]; omega)]
  have:¬ l=m:=fun he=>h (by rw [he])
  simp [this]
def KM (a b:Y5):Bool:=decide (a.id=b.id)&&decide (a.cap.kind=b.cap.kind∧a.cap.base=b.cap.base∧a.cap.bits=b.cap.bits∧a.cap.rights=b.cap.rights∧a.cap.width=b.cap.width∧a.cap.level=b.cap.level∧a.cap.device=b.cap.device)&&decide (a.path=b.path)
theorem Zft (a b:Cap):(((cop .eql a.kind b.kind)&&((cop .eql a.base b.base)&&((cop .eql a.bits b.bits)&&((cop .eql a.rights b.rights)&&((cop .eql a.width b.width)&&((cop .eql a.level b.level)&&((a.device == b.device)&&true)))))))=true)↔(a.kind=b.kind∧a.base=b.base∧a.bits=b.bits∧a.rights=b.rights∧a.width=b.width∧a.level=b.level∧a.device=b.device):=by
 simp only [CQ,beq_iff_eq,and_true]
theorem ZAA (a b:Y5) (ha:a.path.length < 2 ^ 63):ZrO a.id.core a.id.op a.id.part (Zb a.path) a.cap.kind a.cap.base a.cap.bits a.cap.rights a.cap.width a.cap.level a.cap.device b.id.core b.id.op b.id.part (Zb b.path) b.cap.kind b.cap.base b.cap.bits b.cap.rights b.cap.width b.cap.level b.cap.device=some (KM a b):=by
 rw [Zr0,ZAa _ _ ha,Option.bind_some]
 unfold KM
 refine Zo (fun h=>?_) fun h=>?_
 ·rw [Yc] at h
  refine Zo (fun h2=>?_) fun h2=>?_
  ·rw [Zft] at h2
   rw [decide_eq_true (show a.id=b.id from h),decide_eq_true h2]; rfl
  ·rw [Zft] at h2
   rw [decide_eq_true (show a.id=b.id from h),decide_eq_false h2]; rfl
 ·rw [Yc] at h
  rw [decide_eq_false (show ¬ a.id=b.id from h)]; rfl
theorem ZsU (a b:Y5) (ha:a.path.length < 2 ^ 63) (hb:b.path.length < 2 ^ 63):g19 a.id.core a.id.op a.id.part (Zb a.path) a.cap.kind a.cap.base a.cap.bits a.cap.rights a.cap.width a.cap.level a.cap.device b.id.core b.id.op b.id.part (Zb b.path) b.cap.kind b.cap.base b.cap.bits b.cap.rights b.cap.width b.cap.level b.cap.device=some (KM a b):=by
 rw [ZtM,s46 _ _ ha hb,Option.bind_some]
 unfold KM
 refine Zo (fun h=>?_) fun h=>?_
 ·rw [Yc] at h
  refine Zo (fun h2=>?_) fun h2=>?_
  ·rw [Zft] at h2
   rw [decide_eq_true (show a.id=b.id from h),decide_eq_true h2]; rfl
  ·rw [Zft] at h2
   rw [decide_eq_true (show a.id=b.id from h),decide_eq_false h2]; rfl
 ·rw [Yc] at h
  rw [decide_eq_false (show ¬ a.id=b.id from h)]; rfl
def Z0:Y5:=⟨⟨0,0,0⟩,[],⟨0,0,0,0,0,0,false⟩⟩
theorem Zrf (a:Y5) (ha:a.path.length < 2 ^ 63):ZrO a.id.core a.id.op a.id.part (Zb a.path) a.cap.kind a.cap.base a.cap.bits a.cap.rights a.cap.width a.cap.level a.cap.device 0 0 0 ([] : List (List AV)) 0 0 0 0 0 0 false=some (KM a Z0):=ZAA a Z0 ha
theorem ZyU (a:Y5) (ha:a.path.length < 2 ^ 63):g19 a.id.core a.id.op a.id.part (Zb a.path) a.cap.kind a.cap.base a.cap.bits a.cap.rights a.cap.width a.cap.level a.cap.device 0 0 0 ([] : List (List AV)) 0 0 0 0 0 0 false=some (KM a Z0):=ZsU a Z0 ha (by simp [Z0])
def KO (r:Req):Bool:=ZbS r.id&&decide (1≤r.call.kind∧r.call.kind≤6)&&Z2 r.region&&decide (r.width=32∨r.width=39)&&(if r.call.kind=1 then KM r.src Z0 else ZF r.src)
theorem Zzs (r:Req) (hr:r.src.path.length < 2 ^ 63):ZvA r.id.core r.id.op r.id.part r.call.kind r.call.slot r.call.dest r.call.core r.call.mask r.call.object r.call.bits r.call.level r.call.offset r.call.count r.call.index r.call.addr r.region r.width r.src.id.core r.src.id.op r.src.id.part (Zb r.src.path) r.src.cap.kind r.src.cap.base r.src.cap.bits r.src.cap.rights r.src.cap.width r.src.cap.level r.src.cap.device=some (KO r):=by
 rw [Zqn]
 simp only [Zwf,Zvv,Zrf _ hr,ZtO _ hr,Option.bind_some]
 repeat' split
 all_goals (refine congrArg some ?_; rw [Zi]; simp only [KO,CQ] at *; grind)
theorem s91 (r:Req) (hr:r.src.path.length < 2 ^ 63):g91 r.id.core r.id.op r.id.part r.call.kind r.call.slot r.call.dest r.call.core r.call.mask r.call.object r.call.bits r.call.level r.call.offset r.call.count r.call.index r.call.addr r.region r.width r.src.id.core r.src.id.op r.src.id.part (Zb r.src.path) r.src.cap.kind r.src.cap.base r.src.cap.bits r.src.cap.rights r.src.cap.width r.src.cap.level r.src.cap.device=some (KO r):=by
 rw [ZuB]
 simp only [s92,ZtT,ZyU _ hr,s87 _ hr,Option.bind_some]
 repeat' split
 all_goals (refine congrArg some ?_; rw [Zi]; simp only [KO,CQ] at *; grind)
end Go.Proofs.YtljejgmcgddppaaGreat
end

section
namespace Go.Proofs.YtljejgmcgddppaaGreat
open Go Go.AM
set_option linter.unusedSimpArgs false
set_option linter.unusedVariables false
set_option maxRecDepth 100000
theorem Zfr {γ:Type} {F:Nat→Int→Option γ} {n:Nat} {miss:γ} (hit:Nat→γ) (p:Nat→Bool) (hn:n < 2 ^ 63)
  (step:∀ k i:Nat,i < n→F (k+1) (i:Int)=if p i=true then some (hit i) else F k ((i+1:Nat):Int))
  (last:∀ k i:Nat,n≤i→F (k+1) (i:Int)=some miss) :
  (∃ i,i < n∧p i=true∧(∀ j,j < i→p j=false)∧F Zx 0=some (hit i))∨((∀ j,j < n→p j=false)∧F Zx 0=some miss):=by
 have key:∀ (j i fuel:Nat),n≤i+j→j < fuel→(∃ m,i≤m∧m < n∧p m=true∧(∀ j,i≤j→j < m→p j=false)∧F fuel (i:Int)=some (hit m))∨((∀ j,i≤j→j < n→p j=false)∧F fuel (i:Int)=some miss):=by
  intro j
  induction j with
  | zero =>
   intro i fuel h hf
   obtain ⟨f,rfl⟩:∃ f,fuel=f+1:=⟨fuel - 1,by omega⟩
   exact .inr ⟨fun j h1 h2=>by omega,last f i (by omega)⟩
  | succ j ih =>
   intro i fuel h hf
   obtain ⟨f,rfl⟩:∃ f,fuel=f+1:=⟨fuel - 1,by omega⟩
   by_cases hi:i < n
   ·rw [step f i hi]
    cases hp:p i with
    | true => exact .inl ⟨i, Nat.le_refl _, hi, hp, fun j h1 h2 => by omega, if_pos rfl⟩
    | false =>
     rw [if_neg Bool.false_ne_true]
     rcases ih (i+1) f (by omega) (by omega) with ⟨m,h1,h2,h3,h4,h5⟩ | ⟨h1,h2⟩
     ·refine .inl ⟨m,by omega,h2,h3,fun j h6 h7=>?_,h5⟩
      by_cases he:j=i
      ·rw [he]; exact hp
      ·exact h4 j (by omega) h7
     ·refine .inr ⟨fun j h6 h7=>?_,h2⟩
      by_cases he:j=i
      ·rw [he]; exact hp
      ·exact h1 j (by omega) h7
   ·exact .inr ⟨fun j h1 h2=>by omega,last f i (by omega)⟩
 rcases key n 0 Zx (by omega) (by have:=JK hn; omega) with ⟨m,_,h2,h3,h4,h5⟩ | ⟨h1,h2⟩
 ·exact .inl ⟨m,h2,h3,fun j hj=>h4 j (by omega) hj,h5⟩
 ·exact .inr ⟨fun j hj=>h1 j (by omega) hj,h2⟩
def zid:Id:=⟨0,0,0⟩
def ZbR (i:Id) (t:Jp):Bool:=!decide (t.node.id=zid)&&decide (t.node.id=i)
def ZdB (s:Jp):Bool:=decide (0≤s.op∧s.op≤1073741824)&&(if s.node.id=zid then KM s.node Z0&&decide (s.lock=zid) else ZF s.node&&(decide (s.lock=zid)||ZbS s.lock))
def KT (l:List Jp) (i:Nat):Bool:=match l[i]? with | some s=>!((l.take i).any (ZbR s.node.id)) | none=>true
def Ve (l:List Jp):Bool:=decide (l.length≤64)&&(List.range' 0 l.length).all (fun i=>atB ZdB l i&&KT l i)
theorem Ya (a b c:Int):((cop .eql a 0&&(cop .eql b 0&&(cop .eql c 0&&true)))=true)↔((⟨a,b,c⟩:Id)=zid):=Yc a b c 0 0 0
theorem ZA4 (s:Jp) (hs:s.node.path.length < 2 ^ 63):Zxp s.node.id.core s.node.id.op s.node.id.part (Zb s.node.path) s.node.cap.kind s.node.cap.base s.node.cap.bits s.node.cap.rights s.node.cap.width s.node.cap.level s.node.cap.device s.op s.lock.core s.lock.op s.lock.part=some (ZdB s):=by
 rw [Zru]
 simp only [Zme,Zrf _ hs,ZtO _ hs,ZuH,Option.bind_some,Ya,Ke]
 have e:cop .eql s.lock.part 0=decide (s.lock.part=0):=rfl
 have e2:((cop .eql s.lock.core 0)&&((cop .eql s.lock.op 0)&&((cop .eql s.lock.part 0)&&true)))=decide (s.lock=zid):=by
  rw [Zi,Ya,Ke,decide_eq_true_eq]
 simp only [e2]
 repeat' split
 all_goals (refine congrArg some ?_; rw [Zi]; simp only [ZdB,ZbS,CQ] at *; grind)
theorem ZnG {α:Type} (q:α→Bool) (l:List α) (i:Nat) (hi:i≤l.length):(l.take i).any q=true↔∃ j,∃ (h:j < l.length),j < i∧q l[j]=true:=by
 rw [List.any_eq_true]
 constructor
 ·rintro ⟨x,hx,hq⟩
  obtain ⟨j,hj,rfl⟩:=List.getElem_of_mem hx
  rw [List.length_take] at hj
  rw [List.getElem_take] at hq
  exact ⟨j,by omega,by omega,hq⟩
 ·rintro ⟨j,h1,h2,hq⟩
  refine ⟨l[j],?_,hq⟩
  rw [List.mem_iff_getElem]
  exact ⟨j,by rw [List.length_take]; omega,by rw [List.getElem_take]⟩
theorem Yp (l:List Jp):(l.map Zg).length=l.length:=List.length_map _
theorem Zzc (l:List Jp) (hl:l.length < 2 ^ 63) (a b c:Int):∃ r,Zwi (l.map Zg) a b c=some (r,l.any (ZbR ⟨a,b,c⟩)):=by
 rw [ZrS,Yp]
 have:=Zfr (F:=fun k i=>Zds k a b c (l.map Zg) (l.length:Int) i) (n:=l.length) (miss:=((0:Int),false)) (fun i=>((i:Int),true)) (atB (ZbR ⟨a,b,c⟩) l) hl
  (fun k i hi=>by
   show Zds (k+1) _ _ _ _ _ _=_
   rw [Zgk,if_pos (ZX hi)]
   refine (ZN hi _).trans ?_
   simp only [Yd,d2,d4,d8,d16]
   rw [Zme,Option.bind_some,ZQ hi hl,Ja _ hi]
   generalize l[i]=t
   simp only [Ya,Yc,Ke,Bool.not_eq_true']
   unfold ZbR
   by_cases h1:t.node.id=zid
   ·rw [if_neg (by simp only [Bool.not_eq_false]; rw [Ya]; exact h1),if_neg (by simp [h1])]
   ·rw [if_pos (by rw [← Bool.not_eq_true,Ya]; exact h1)]
    by_cases h2:t.node.id=⟨a,b,c⟩
    ·rw [if_pos (by exact h2),if_pos (by simp [h1,h2]; exact fun h=>h1 (h2.trans h))]
    ·rw [if_neg (by exact h2),if_neg (by simp [h1,h2])])
  (fun k i hi=>by show Zds (k+1) _ _ _ _ _ _=_; rw [Zgk,if_neg (ZZ hi)])
 rcases this with ⟨i,h1,h2,h3,h4⟩ | ⟨h1,h2⟩
 ·refine ⟨i,?_⟩
  have e:l.any (ZbR ⟨a,b,c⟩)=true:=by
   rw [Ja _ h1] at h2
   exact List.any_eq_true.2 ⟨l[i],List.getElem_mem h1,h2⟩
  rw [e]; exact h4
 ·refine ⟨0,?_⟩
  have e:l.any (ZbR ⟨a,b,c⟩)=false:=by
   rw [List.any_eq_false]
   intro x hx
   obtain ⟨j,hj,rfl⟩:=List.getElem_of_mem hx
   have:=h1 j hj
   rw [Ja _ hj] at this
   rw [this]; exact Bool.false_ne_true
  rw [e]; exact h2
theorem ZzV (l:List Jp) (hl:l.length < 2 ^ 63) (hp:∀ s∈l,s.node.path.length < 2 ^ 63):ZwP (l.map Zg)=some (Ve l):=by
 rw [ZrC,Yp]
 unfold Ve
 refine Zo (fun h=>?_) fun h=>?_
 ·rw [decide_eq_false (by simp only [CQ] at h; omega),Bool.false_and]
 ·rw [decide_eq_true (by simp only [CQ] at h; omega),Bool.true_and]
  have:=ZL (F:=fun k i=>Zeh k (l.map Zg) (l.map Zg) (l.length:Int) i) (n:=l.length) (fin:=some true) (bad:=some false) (fun i=>atB ZdB l i&&KT l i) hl 0 (by omega)
   (fun k i _ hi=>by
    show Zeh (k+1) _ _ _ _=_
    rw [Zhv,if_pos (ZX hi)]
    refine (ZN hi _).trans ?_
    simp only [Yd,d2,d4,d8,d16]
    obtain ⟨r,hr⟩:=Zzc (l.take i) (by rw [List.length_take]; omega) l[i].node.id.core l[i].node.id.op l[i].node.id.part
    have hu:KT l i = !((l.take i).any (ZbR l[i].node.id)):=by unfold KT; rw [List.getElem?_eq_getElem hi]
    rw [ZA4 _ (hp _ (List.getElem_mem hi)),Option.bind_some,Ze (by omega),Ze (by rw [Yp]; omega),Int.toNat_natCast,← List.map_take,hr,Option.bind_some,ZQ hi hl,Ja _ hi,hu,Ke]
    cases ZdB l[i] <;> cases (l.take i).any (ZbR l[i].node.id) <;> rfl)
   (fun k i hi=>by show Zeh (k+1) _ _ _ _=_; rw [Zhv,if_neg (ZZ hi)])
  refine this.trans ?_
  rw [Nat.sub_zero]
  cases (List.range' 0 l.length).all (fun i=>atB ZdB l i&&KT l i) <;> rfl
theorem s23 (l:List Jp) (hl:l.length < 2 ^ 63) (i:Nat) (hi:i < l.length) (hz:¬ l[i].node.id=zid):∃ r,g23 (l.map Zg) l[i].node.id.core l[i].node.id.op l[i].node.id.part=some r∧(r=(i:Int)↔KT l i=true):=by
 rw [Zpz]
 have hself:ZbR l[i].node.id l[i]=true:=by simp [ZbR,hz]
 have hu:KT l i = !((l.take i).any (ZbR l[i].node.id)):=by unfold KT; rw [List.getElem?_eq_getElem hi]
 have:=Zfr (F:=fun k j=>Zd5 k (l.map Zg) l[i].node.id.core l[i].node.id.op l[i].node.id.part j) (n:=l.length) (miss:=(-1:Int)) (fun j=>(j:Int)) (atB (ZbR l[i].node.id) l) hl
  (fun k j hj=>by
   show Zd5 (k+1) _ _ _ _ _=_
   rw [Zcs,Yp,if_pos (ZX hj)]
   refine (ZN hj _).trans ?_
   simp only [Yd,d2,d4,d8,d16]
   rw [Zl6,Option.bind_some,ZQ hj hl,Ja _ hj]
   generalize l[i].node.id=w
   refine (Zo (x:=if ZbR w l[j]=true then some (j:Int) else _) (fun h=>?_) fun h=>?_)
   ·refine (ZN hj _).trans ?_
    simp only [Yd,d2,d4,d8,d16]
    simp only [Bool.not_eq_true'] at h
    rw [← Bool.not_eq_true,Ya,Ke] at h
    unfold ZbR
    by_cases h2:l[j].node.id=w
    ·simp only [Yc,Ke,h2,if_true]
     rw [if_pos (by simp; exact fun h3=>h (h2.trans h3))]
    ·simp only [Yc,Ke,h2,if_false]
     rw [if_neg (by simp)]
   ·simp only [Bool.not_eq_true',Bool.not_eq_false] at h
    rw [Ya,Ke] at h
    rw [if_neg (by simp [ZbR,h])])
  (fun k j hj=>by show Zd5 (k+1) _ _ _ _ _=_; rw [Zcs,Yp,if_neg (ZZ hj)])
 rcases this with ⟨m,h1,h2,h3,h4⟩ | ⟨h1,_⟩
 ·refine ⟨m,h4,?_⟩
  rw [hu,Bool.not_eq_true',← Bool.not_eq_true,ZnG _ _ _ (by omega)]
  constructor
  ·intro he
   have he':m=i:=by omega
   subst he'
   rintro ⟨j,hj,hji,hq⟩
   have:=h3 j hji
   rw [Ja _ hj,hq] at this
   cases this
  ·intro hn
   by_cases hmi:m=i
   ·rw [hmi]
   ·exfalso
    by_cases hlt:m < i
    ·rw [Ja _ h1] at h2
     exact hn ⟨m,h1,hlt,h2⟩
    ·have:=h3 i (by omega)
     rw [Ja _ hi,hself] at this
     cases this
 ·have:=h1 i hi
  rw [Ja _ hi,hself] at this
  cases this
theorem ZAj (l:List Jp) (hl:l.length < 2 ^ 63) (hp:∀ s∈l,s.node.path.length < 2 ^ 63):ZwC (l.map Zg)=some (Ve l):=by
 rw [ZpK,Yp]
 unfold Ve
 refine Zo (fun h=>?_) fun h=>?_
 ·rw [decide_eq_false (by simp only [CQ] at h; omega),Bool.false_and]
 ·rw [decide_eq_true (by simp only [CQ] at h; omega),Bool.true_and]
  have:=ZL (F:=fun k i=>WE k (l.map Zg) i) (n:=l.length) (fin:=some true) (bad:=some false) (fun i=>atB ZdB l i&&KT l i) hl 0 (by omega)
   (fun k i _ hi=>by
    show WE (k+1) _ _=_
    rw [Zhd,Yp,if_pos (ZX hi)]
    refine (ZN hi _).trans ?_
    simp only [Yd,d2,d4,d8,d16]
    have hps:=hp _ (List.getElem_mem hi)
    have hu:l[i].node.id=zid→KT l i=true:=by
     intro hz
     unfold KT
     rw [List.getElem?_eq_getElem hi]
     simp only [Bool.not_eq_true',List.any_eq_false]
     intro t _
     rw [hz]
     simp [ZbR]
    have h128:=s23 l hl i hi
    rw [Ja _ hi,ZQ hi hl]
    generalize WE k (l.map Zg) ((i+1:Nat):Int)=X
    generalize huq:KT l i=uq at *
    generalize hli:l[i]=t at *
    simp only [Zl6,s88,ZyU _ hps,s87 _ hps,Option.bind_some,Ya,Ke]
    have e2:((cop .eql t.lock.core 0)&&((cop .eql t.lock.op 0)&&((cop .eql t.lock.part 0)&&true)))=decide (t.lock=zid):=by
     rw [Zi,Ya,Ke,decide_eq_true_eq]
    simp only [e2]
    by_cases hz:t.node.id=zid
    ·have:=hu hz
     subst this
     simp only [hz,if_true]
     repeat' split
     all_goals (simp only [ZdB,ZbS,hz,if_true,CQ] at * <;> grind)
    ·obtain ⟨r,hr,hru⟩:=h128 hz
     simp only [hz,if_false,hr,Option.bind_some]
     repeat' split
     all_goals (simp only [ZdB,ZbS,hz,if_false,CQ] at * <;> grind))
   (fun k i hi=>by show WE (k+1) _ _=_; rw [Zhd,Yp,if_neg (ZZ hi)])
  refine this.trans ?_
  rw [Nat.sub_zero]
  cases (List.range' 0 l.length).all (fun i=>atB ZdB l i&&KT l i) <;> rfl
end Go.Proofs.YtljejgmcgddppaaGreat
end

section
namespace Go.Proofs.YtljejgmcgddppaaGreat
open Go Go.AM
set_option linter.unusedSimpArgs false
set_option linter.unusedVariables false
set_option maxRecDepth 100000
theorem Zd7 {j:Nat} (h:j+1 < 2 ^ 63):iop .sub .i64 ((j+1:Nat):Int) 1=(j:Int):=by
 rw [ZhC (by omega) (by omega)]; omega
theorem ZmD (j:Nat):cop .gtr ((j+1:Nat):Int) 0=true:=by simp only [CQ]; omega
theorem ZlV:cop .gtr ((0:Nat):Int) 0=false:=rfl
def Zsa (a b:Id):Bool:=Zsk a.core a.op a.part b.core b.op b.part
theorem s29 (a b c d e f:Int):g29 a b c d e f=some (Zsk a b c d e f):=by
 rw [Zuc]
 repeat' split
 all_goals (refine congrArg some ?_; rw [Zi]; simp only [Zsk,CQ] at *; omega)
def Y2 (m:YD):Bool:=Z2 m.region&&ZbS m.op
def VZ (a:Ans):Bool:=decide (1≤a.op∧a.op≤1073741824)&&Zc8 a.err
def V1 (e:ZG):Bool:=Zs e.core&&Jr e.slot&&ZF e.node
def ltp:Req→Req→Bool:=fun a b=>Zsa a.id b.id
theorem ZzC (x:Req) (hx:x.src.path.length < 2 ^ 63):ZyE x.id.core x.id.op x.id.part x.call.kind x.call.slot x.call.dest x.call.core x.call.mask x.call.object x.call.bits x.call.level x.call.offset x.call.count x.call.index x.call.addr x.region x.width x.src.id.core x.src.id.op x.src.id.part (Zb x.src.path) x.src.cap.kind x.src.cap.base x.src.cap.bits x.src.cap.rights x.src.cap.width x.src.cap.level x.src.cap.device=some (!KO x):=by
 rw [ZpP,Zzs x hx,Option.bind_some]
theorem Zor (l:List Req) (hl:l.length < 2 ^ 63) (hp:∀ x∈l,x.src.path.length < 2 ^ 63):∃ r,ZfY (l.map ZM)=some r∧cop .geq r 0 = !(l.all KO):=by
 rw [ZiA,List.length_map]
 have:=Yx (F:=fun k i=>KD k (l.map ZM) (l.length:Int) i) (n:=l.length) (fun i=>!atB KO l i) hl
  (fun k i hi=>by
   show KD (k+1) _ _ _=_
   rw [ZaM,if_pos (ZX hi)]
   refine (J9 hi _).trans ?_
   simp only [Zq0,d2,d4,d8,d16]
   rw [ZzC l[i] (hp _ (List.getElem_mem hi)),Option.bind_some,ZQ hi hl,Ja _ hi])
  (fun k i hi=>by show KD (k+1) _ _ _=_; rw [ZaM,if_neg (ZZ hi)])
 rw [VU] at this
 exact this
theorem ZoU (l:List Req) (hl:l.length < 2 ^ 63) (hp:∀ x∈l,x.src.path.length < 2 ^ 63):Zfx (l.map ZM)=some (!(l.all KO)):=by
 obtain ⟨r,h1,h2⟩:=Zor l hl hp
 rw [ZiL,h1,Option.bind_some,h2]
theorem ZzX (l:List Req) {j:Nat} (hj:j+1 < l.length):Zxx (j:Int) ((j+1:Nat):Int) (l.map ZM)=some (ltp l[j] l[j+1],l.map ZM):=by
 rw [ZpV]
 refine (J9 (show j < l.length by omega) _).trans ?_
 refine (J9 hj _).trans ?_
 simp only [Zq0,d2,d4,d8,d16]
 rw [Zy8,Option.bind_some]; rfl
theorem ZoO (l:List Req) (hl:l.length < 2 ^ 63):Ze6 (l.length:Int) (l.map ZM)=some (KL ltp l,l.map ZM):=by
 rw [Zh7]
 have:=ZL (F:=fun k i=>Kr k (l.length:Int) i (l.map ZM)) (n:=l.length) (fin:=some (true,l.map ZM)) (bad:=some (false,l.map ZM)) (Vn ltp l) hl 1 (by omega)
  (fun k i h1 hi=>by
   obtain ⟨j,rfl⟩:∃ j,i=j+1:=⟨i - 1,by omega⟩
   show Kr (k+1) _ _ _=_
   rw [Zau,if_pos (ZX hi),Zd7 (by omega),ZzX l hi,Option.bind_some,ZQ hi hl,Kb _ hi]
   cases ltp l[j] l[j+1] <;> rfl)
  (fun k i hi=>by show Kr (k+1) _ _ _=_; rw [Zau,if_neg (ZZ hi)])
 rw [ZuI] at this
 refine Eq.trans this ?_
 cases KL ltp l <;> rfl
theorem ZAE (l:List Req) (hl:l.length < 2 ^ 63) (hp:∀ x∈l,x.src.path.length < 2 ^ 63):ZxF (l.map ZM)=some (l.all KO&&KL ltp l):=by
 rw [ZqD,ZoU l hl hp,Option.bind_some,List.length_map,ZoO l hl,Option.bind_some]
 cases l.all KO <;> rfl
def ltm:YD→YD→Bool:=fun a b=>decide (a.region < b.region)
theorem ZzZ (x:YD):ZxJ x.region x.op.core x.op.op x.op.part=some (!Y2 x):=by
 rw [Zrm]
 simp only [Zvv,Zwf,Option.bind_some]
 repeat' split
 all_goals (refine congrArg some ?_; rw [Zi]; simp only [Y2,CQ] at * <;> grind)
theorem ZnO (l:List YD) (hl:l.length < 2 ^ 63):∃ r,Zfz (l.map Zj)=some r∧cop .geq r 0 = !(l.all Y2):=by
 rw [ZhF,List.length_map]
 have:=Yx (F:=fun k i=>Kv k (l.map Zj) (l.length:Int) i) (n:=l.length) (fun i=>!atB Y2 l i) hl
  (fun k i hi=>by
   show Kv (k+1) _ _ _=_
   rw [Zbc,if_pos (ZX hi)]
   refine (Jc hi _).trans ?_
   simp only [d2,d4,d8,d16]
   rw [ZzZ l[i],Option.bind_some,ZQ hi hl,Ja _ hi])
  (fun k i hi=>by show Kv (k+1) _ _ _=_; rw [Zbc,if_neg (ZZ hi)])
 rw [VU] at this
 exact this
theorem Zpb (l:List YD) (hl:l.length < 2 ^ 63):ZfH (l.map Zj)=some (!(l.all Y2)):=by
 obtain ⟨r,h1,h2⟩:=ZnO l hl
 rw [Zh2,h1,Option.bind_some,h2]
theorem ZzH (l:List YD) {j:Nat} (hj:j+1 < l.length):ZwH (j:Int) ((j+1:Nat):Int) (l.map Zj)=some (ltm l[j] l[j+1],l.map Zj):=by
 rw [ZrM]
 refine (Jc (show j < l.length by omega) _).trans ?_
 refine (Jc hj _).trans ?_
 simp only [d2,d4,d8,d16]
 rfl
theorem ZnD (l:List YD) (hl:l.length < 2 ^ 63):Zfd (l.length:Int) (l.map Zj)=some (KL ltm l,l.map Zj):=by
 rw [ZhB]
 have:=ZL (F:=fun k i=>Kq k (l.length:Int) i (l.map Zj)) (n:=l.length) (fin:=some (true,l.map Zj)) (bad:=some (false,l.map Zj)) (Vn ltm l) hl 1 (by omega)
  (fun k i h1 hi=>by
   obtain ⟨j,rfl⟩:∃ j,i=j+1:=⟨i - 1,by omega⟩
   show Kq (k+1) _ _ _=_
   rw [ZaG,if_pos (ZX hi),Zd7 (by omega),ZzH l hi,Option.bind_some,ZQ hi hl,Kb _ hi]
   cases ltm l[j] l[j+1] <;> rfl)
  (fun k i hi=>by show Kq (k+1) _ _ _=_; rw [ZaG,if_neg (ZZ hi)])
 rw [ZuI] at this
 refine Eq.trans this ?_
 cases KL ltm l <;> rfl
theorem ZzW (l:List YD) (hl:l.length < 2 ^ 63):Zys (l.map Zj)=some (l.all Y2&&KL ltm l):=by
 rw [Zrv,Zpb l hl,Option.bind_some,List.length_map,ZnD l hl,Option.bind_some]
 cases l.all Y2 <;> rfl
def lta:Ans→Ans→Bool:=fun a b=>decide (a.op < b.op)
theorem ZzN (x:Ans):Zyo x.op x.err=some (!VZ x):=by
 rw [Zrd]
 simp only [ZyR,Option.bind_some]
 repeat' split
 all_goals (refine congrArg some ?_; rw [Zi]; simp only [VZ,CQ] at * <;> grind)
theorem ZoA (l:List Ans) (hl:l.length < 2 ^ 63):∃ r,ZfP (l.map ZS)=some r∧cop .geq r 0 = !(l.all VZ):=by
 rw [Zim,List.length_map]
 have:=Yx (F:=fun k i=>Kn k (l.map ZS) (l.length:Int) i) (n:=l.length) (fun i=>!atB VZ l i) hl
  (fun k i hi=>by
   show Kn (k+1) _ _ _=_
   rw [ZaQ,if_pos (ZX hi)]
   refine (Yk hi _).trans ?_
   simp only [d2,d4,d8,d16]
   rw [ZzN l[i],Option.bind_some,ZQ hi hl,Ja _ hi])
  (fun k i hi=>by show Kn (k+1) _ _ _=_; rw [ZaQ,if_neg (ZZ hi)])
 rw [VU] at this
 exact this
theorem ZoF (l:List Ans) (hl:l.length < 2 ^ 63):Zfg (l.map ZS)=some (!(l.all VZ)):=by
 obtain ⟨r,h1,h2⟩:=ZoA l hl
 rw [ZhV,h1,Option.bind_some,h2]
theorem ZAI (l:List Ans) {j:Nat} (hj:j+1 < l.length):Zwn (j:Int) ((j+1:Nat):Int) (l.map ZS)=some (lta l[j] l[j+1],l.map ZS):=by
 rw [Zp8]
 refine (Yk (show j < l.length by omega) _).trans ?_
 refine (Yk hj _).trans ?_
 simp only [d2,d4,d8,d16]
 rfl
theorem ZnB (l:List Ans) (hl:l.length < 2 ^ 63):Zfl (l.length:Int) (l.map ZS)=some (KL lta l,l.map ZS):=by
 rw [Ziv]
 have:=ZL (F:=fun k i=>KA k (l.length:Int) i (l.map ZS)) (n:=l.length) (fin:=some (true,l.map ZS)) (bad:=some (false,l.map ZS)) (Vn lta l) hl 1 (by omega)
  (fun k i h1 hi=>by
   obtain ⟨j,rfl⟩:∃ j,i=j+1:=⟨i - 1,by omega⟩
   show KA (k+1) _ _ _=_
   rw [Za5,if_pos (ZX hi),Zd7 (by omega),ZAI l hi,Option.bind_some,ZQ hi hl,Kb _ hi]
   cases lta l[j] l[j+1] <;> rfl)
  (fun k i hi=>by show KA (k+1) _ _ _=_; rw [Za5,if_neg (ZZ hi)])
 rw [ZuI] at this
 refine Eq.trans this ?_
 cases KL lta l <;> rfl
theorem Zz6 (l:List Ans) (hl:l.length < 2 ^ 63):Zw3 (l.map ZS)=some (l.all VZ&&KL lta l):=by
 rw [Zqw,ZoF l hl,Option.bind_some,List.length_map,ZnB l hl,Option.bind_some]
 cases l.all VZ <;> rfl
def lte:ZG→ZG→Bool:=fun a b=>Zsa a.node.id b.node.id
theorem ZAl (x:ZG) (hx:x.node.path.length < 2 ^ 63):Zwv x.core x.slot x.node.id.core x.node.id.op x.node.id.part (Zb x.node.path) x.node.cap.kind x.node.cap.base x.node.cap.bits x.node.cap.rights x.node.cap.width x.node.cap.level x.node.cap.device=some (!V1 x):=by
 rw [Zrr]
 simp only [s67,Zy2,ZtO _ hx,Option.bind_some]
 repeat' split
 all_goals (refine congrArg some ?_; rw [Zi]; simp only [V1,CQ] at * <;> grind)
theorem Znw (l:List ZG) (hl:l.length < 2 ^ 63) (hp:∀ x∈l,x.node.path.length < 2 ^ 63):∃ r,ZfI (l.map Zd)=some r∧cop .geq r 0 = !(l.all V1):=by
 rw [ZhO,List.length_map]
 have:=Yx (F:=fun k i=>Kx k (l.map Zd) (l.length:Int) i) (n:=l.length) (fun i=>!atB V1 l i) hl
  (fun k i hi=>by
   show Kx (k+1) _ _ _=_
   rw [Za8,if_pos (ZX hi)]
   refine (Zt hi _).trans ?_
   simp only [Yb,d2,d4,d8,d16]
   rw [ZAl l[i] (hp _ (List.getElem_mem hi)),Option.bind_some,ZQ hi hl,Ja _ hi])
  (fun k i hi=>by show Kx (k+1) _ _ _=_; rw [Za8,if_neg (ZZ hi)])
 rw [VU] at this
 exact this
theorem ZoR (l:List ZG) (hl:l.length < 2 ^ 63) (hp:∀ x∈l,x.node.path.length < 2 ^ 63):ZfB (l.map Zd)=some (!(l.all V1)):=by
 obtain ⟨r,h1,h2⟩:=Znw l hl hp
 rw [ZiD,h1,Option.bind_some,h2]
theorem ZzF (l:List ZG) {j:Nat} (hj:j+1 < l.length):Zxu (j:Int) ((j+1:Nat):Int) (l.map Zd)=some (lte l[j] l[j+1],l.map Zd):=by
 rw [ZqJ]
 refine (Zt (show j < l.length by omega) _).trans ?_
 refine (Zt hj _).trans ?_
 simp only [Yb,d2,d4,d8,d16]
 rw [Zy8,Option.bind_some]; rfl
theorem ZnA (l:List ZG) (hl:l.length < 2 ^ 63):Zfi (l.length:Int) (l.map Zd)=some (KL lte l,l.map Zd):=by
 rw [ZiB]
 have:=ZL (F:=fun k i=>Kw k (l.length:Int) i (l.map Zd)) (n:=l.length) (fin:=some (true,l.map Zd)) (bad:=some (false,l.map Zd)) (Vn lte l) hl 1 (by omega)
  (fun k i h1 hi=>by
   obtain ⟨j,rfl⟩:∃ j,i=j+1:=⟨i - 1,by omega⟩
   show Kw (k+1) _ _ _=_
   rw [ZaT,if_pos (ZX hi),Zd7 (by omega),ZzF l hi,Option.bind_some,ZQ hi hl,Kb _ hi]
   cases lte l[j] l[j+1] <;> rfl)
  (fun k i hi=>by show Kw (k+1) _ _ _=_; rw [ZaT,if_neg (ZZ hi)])
 rw [ZuI] at this
 refine Eq.trans this ?_
 cases KL lte l <;> rfl
theorem ZAi (l:List ZG) (hl:l.length < 2 ^ 63) (hp:∀ x∈l,x.node.path.length < 2 ^ 63):ZxS (l.map Zd)=some (l.all V1&&KL lte l):=by
 rw [Zq3,ZoR l hl hp,Option.bind_some,List.length_map,ZnA l hl,Option.bind_some]
 cases l.all V1 <;> rfl
theorem Zz9 (x:Id):Zyz x.core x.op x.part=some (!ZbS x):=by
 rw [ZrD,Zwf,Option.bind_some]
theorem ZoZ (l:List Id) (hl:l.length < 2 ^ 63):∃ r,Zf3 (Zb l)=some r∧cop .geq r 0 = !(l.all ZbS):=by
 rw [ZiI,ZY]
 have:=Yx (F:=fun k i=>Ky k (Zb l) (l.length:Int) i) (n:=l.length) (fun i=>!atB ZbS l i) hl
  (fun k i hi=>by
   show Ky (k+1) _ _ _=_
   rw [ZaI,if_pos (ZX hi)]
   refine (Wi hi _).trans ?_
   dsimp only
   rw [Zz9 l[i],Option.bind_some,ZQ hi hl,Ja _ hi])
  (fun k i hi=>by show Ky (k+1) _ _ _=_; rw [ZaI,if_neg (ZZ hi)])
 rw [VU] at this
 exact this
theorem ZoH (l:List Id) (hl:l.length < 2 ^ 63):ZfA (Zb l)=some (!(l.all ZbS)):=by
 obtain ⟨r,h1,h2⟩:=ZoZ l hl
 rw [Zik,h1,Option.bind_some,h2]
def ZhN (ops:Bool) (i:Id):Bool:=WA i&&(!ops||decide (i.part=0))
theorem s94 (l:List Id) (ops:Bool) (hl:l.length < 2 ^ 63):g94 (Zb l) ops=some (l.all (ZhN ops)):=by
 rw [ZtJ]
 have:=ZL (F:=fun k i=>ZgV k (Zb l) ops i) (n:=l.length) (fin:=some true) (bad:=some false) (atB (ZhN ops) l) hl 0 (by omega)
  (fun k i _ hi=>by
   show ZgV (k+1) _ _ _=_
   rw [Zkl,ZY,if_pos (ZX hi)]
   refine (Wi hi _).trans ?_
   dsimp only
   rw [s88,Option.bind_some,ZQ hi hl,Ja _ hi,Ke]
   generalize ZgV k (Zb l) ops ((i+1:Nat):Int)=X
   have e:∀ k:(Int×Int×Int)→Option Bool,Zl (Zb l) (i:Int) [.int .i64,.int .i64,.int .i64] k=k (l[i].core,l[i].op,l[i].part):=fun k=>Wi hi k
   simp only [e]
   generalize l[i]=t
   unfold ZhN
   repeat' split
   all_goals (simp only [CQ] at * <;> grind))
  (fun k i hi=>by show ZgV (k+1) _ _ _=_; rw [Zkl,ZY,if_neg (ZZ hi)])
 rw [Nat.sub_zero,ZeK] at this
 refine Eq.trans this ?_
 cases l.all (ZhN ops) <;> rfl
theorem Zxf (l:List ZG) (hl:l.length < 2 ^ 63) (hp:∀ x∈l,x.node.path.length < 2 ^ 63) (x0 x1 x2 x3 x5:List (List AV)):ZcB Zx x0 x1 x2 x3 (l.map Zd) x5 0=if (l.all V1&&KL lte l)=true then some true else some false:=by
 have:=ZL (F:=fun k i=>ZcB k x0 x1 x2 x3 (l.map Zd) x5 i) (n:=l.length) (fin:=some true) (bad:=some false) (fun i=>atB V1 l i&&Vn lte l i) hl 0 (by omega)
  (fun k i _ hi=>by
   show ZcB (k+1) x0 x1 x2 x3 (l.map Zd) x5 _=_
   rw [ZjP,List.length_map,if_pos (ZX hi)]
   refine (Zt hi _).trans ?_
   rw [ZQ hi hl,Ja _ hi]
   generalize ZcB k x0 x1 x2 x3 (l.map Zd) x5 ((i+1:Nat):Int)=X
   cases i with
   | zero =>
    simp only [Yb,d2,d4,d8,d16,s90,s87 _ (hp _ (List.getElem_mem hi)),s29,Option.bind_some,ZlV,Bool.false_eq_true,if_false,Vn,Bool.and_true]
    generalize l[0]=t
    repeat' split
    all_goals (simp only [V1,Z2,Jr,CQ] at * <;> grind)
   | succ j =>
    simp only [Yb,d2,d4,d8,d16,s90,s87 _ (hp _ (List.getElem_mem hi)),s29,Option.bind_some,ZmD,if_true,Zd7 (show j+1 < 2 ^ 63 by omega),Zt (show j < l.length by omega),Zt hi,Kb _ hi]
    generalize l[j+1]=t
    generalize l[j]=u
    unfold lte Zsa
    repeat' split
    all_goals (simp only [V1,Z2,Jr,CQ] at * <;> grind))
  (fun k i hi=>by show ZcB (k+1) x0 x1 x2 x3 (l.map Zd) x5 _=_; rw [ZjP,List.length_map,if_neg (ZZ hi)])
 rw [Nat.sub_zero,ZcA] at this
 exact this
theorem Zxm (l:List Ans) (hl:l.length < 2 ^ 63) (x0 x1 x2 x4 x5:List (List AV)):Zdx Zx x0 x1 x2 (l.map ZS) x4 x5 0=if (l.all VZ&&KL lta l)=true then ZcB Zx x0 x1 x2 (l.map ZS) x4 x5 0 else some false:=by
 have:=ZL (F:=fun k i=>Zdx k x0 x1 x2 (l.map ZS) x4 x5 i) (n:=l.length) (fin:=ZcB Zx x0 x1 x2 (l.map ZS) x4 x5 0) (bad:=some false) (fun i=>atB VZ l i&&Vn lta l i) hl 0 (by omega)
  (fun k i _ hi=>by
   show Zdx (k+1) x0 x1 x2 (l.map ZS) x4 x5 _=_
   rw [Zjb,List.length_map,if_pos (ZX hi)]
   refine (Yk hi _).trans ?_
   rw [ZQ hi hl,Ja _ hi]
   generalize Zdx k x0 x1 x2 (l.map ZS) x4 x5 ((i+1:Nat):Int)=X
   cases i with
   | zero =>
    simp only [d2,d4,d8,d16,s93,Option.bind_some,ZlV,Bool.false_eq_true,if_false,Vn,Bool.and_true]
    generalize l[0]=t
    repeat' split
    all_goals (simp only [VZ,Z2,Jr,CQ] at * <;> grind)
   | succ j =>
    simp only [d2,d4,d8,d16,s93,Option.bind_some,ZmD,if_true,Zd7 (show j+1 < 2 ^ 63 by omega),Yk (show j < l.length by omega),Yk hi,Kb _ hi]
    generalize l[j+1]=t
    generalize l[j]=u
    unfold lta
    repeat' split
    all_goals (simp only [VZ,Z2,Jr,CQ] at * <;> grind))
  (fun k i hi=>by show Zdx (k+1) x0 x1 x2 (l.map ZS) x4 x5 _=_; rw [Zjb,List.length_map,if_neg (ZZ hi)])
 rw [Nat.sub_zero,ZcA] at this
 exact this
theorem Zw2 (l:List YD) (hl:l.length < 2 ^ 63) (x0 x1 x3 x4 x5:List (List AV)):ZcG Zx x0 x1 (l.map Zj) x3 x4 x5 0=if (l.all Y2&&KL ltm l)=true then Zdx Zx x0 x1 (l.map Zj) x3 x4 x5 0 else some false:=by
 have:=ZL (F:=fun k i=>ZcG k x0 x1 (l.map Zj) x3 x4 x5 i) (n:=l.length) (fin:=Zdx Zx x0 x1 (l.map Zj) x3 x4 x5 0) (bad:=some false) (fun i=>atB Y2 l i&&Vn ltm l i) hl 0 (by omega)
  (fun k i _ hi=>by
   show ZcG (k+1) x0 x1 (l.map Zj) x3 x4 x5 _=_
   rw [Zja,List.length_map,if_pos (ZX hi)]
   refine (Jc hi _).trans ?_
   rw [ZQ hi hl,Ja _ hi]
   generalize ZcG k x0 x1 (l.map Zj) x3 x4 x5 ((i+1:Nat):Int)=X
   cases i with
   | zero =>
    simp only [d2,d4,d8,d16,ZtT,s92 l[0].op,Option.bind_some,ZlV,Bool.false_eq_true,if_false,Vn,Bool.and_true]
    generalize l[0]=t
    repeat' split
    all_goals (simp only [Y2,Z2,Jr,CQ] at * <;> grind)
   | succ j =>
    simp only [d2,d4,d8,d16,ZtT,s92 l[j+1].op,Option.bind_some,ZmD,if_true,Zd7 (show j+1 < 2 ^ 63 by omega),Jc (show j < l.length by omega),Jc hi,Kb _ hi]
    generalize l[j+1]=t
    generalize l[j]=u
    unfold ltm
    repeat' split
    all_goals (simp only [Y2,Z2,Jr,CQ] at * <;> grind))
  (fun k i hi=>by show ZcG (k+1) x0 x1 (l.map Zj) x3 x4 x5 _=_; rw [Zja,List.length_map,if_neg (ZZ hi)])
 rw [Nat.sub_zero,ZcA] at this
 exact this
theorem ZxB (l:List Req) (hl:l.length < 2 ^ 63) (hp:∀ x∈l,x.src.path.length < 2 ^ 63) (x0 x2 x3 x4 x5:List (List AV)):Zfe Zx x0 (l.map ZM) x2 x3 x4 x5 0=if (l.all KO&&KL ltp l)=true then ZcG Zx x0 (l.map ZM) x2 x3 x4 x5 0 else some false:=by
 have:=ZL (F:=fun k i=>Zfe k x0 (l.map ZM) x2 x3 x4 x5 i) (n:=l.length) (fin:=ZcG Zx x0 (l.map ZM) x2 x3 x4 x5 0) (bad:=some false) (fun i=>atB KO l i&&Vn ltp l i) hl 0 (by omega)
  (fun k i _ hi=>by
   show Zfe (k+1) x0 (l.map ZM) x2 x3 x4 x5 _=_
   rw [ZjU,List.length_map,if_pos (ZX hi)]
   refine (J9 hi _).trans ?_
   rw [ZQ hi hl,Ja _ hi]
   generalize Zfe k x0 (l.map ZM) x2 x3 x4 x5 ((i+1:Nat):Int)=X
   cases i with
   | zero =>
    simp only [Zq0,d2,d4,d8,d16,s91 _ (hp _ (List.getElem_mem hi)),s29,Option.bind_some,ZlV,Bool.false_eq_true,if_false,Vn,Bool.and_true]
    generalize l[0]=t
    repeat' split
    all_goals (simp only [Z2,Jr,CQ] at * <;> grind)
   | succ j =>
    simp only [Zq0,d2,d4,d8,d16,s91 _ (hp _ (List.getElem_mem hi)),s29,Option.bind_some,ZmD,if_true,Zd7 (show j+1 < 2 ^ 63 by omega),J9 (show j < l.length by omega),J9 hi,Kb _ hi]
    generalize l[j+1]=t
    generalize l[j]=u
    unfold ltp Zsa
    repeat' split
    all_goals (simp only [Z2,Jr,CQ] at * <;> grind))
  (fun k i hi=>by show Zfe (k+1) x0 (l.map ZM) x2 x3 x4 x5 _=_; rw [ZjU,List.length_map,if_neg (ZZ hi)])
 rw [Nat.sub_zero,ZcA] at this
 exact this
def Yz (s:State):Bool:=Ve s.slots&&(s.pending.all KO&&KL ltp s.pending)&&(s.marks.all Y2&&KL ltm s.marks)&&(s.answers.all VZ&&KL lta s.answers)&&(s.entries.all V1&&KL lte s.entries)&&s.commits.all ZbS
structure State.Fits (s:State):Prop where
 slots:s.slots.length < 2 ^ 63
 pending:s.pending.length < 2 ^ 63
 marks:s.marks.length < 2 ^ 63
 answers:s.answers.length < 2 ^ 63
 entries:s.entries.length < 2 ^ 63
 commits:s.commits.length < 2 ^ 63
 slot:∀ x∈s.slots,x.node.path.length < 2 ^ 63
 req:∀ x∈s.pending,x.src.path.length < 2 ^ 63
 entry:∀ x∈s.entries,x.node.path.length < 2 ^ 63
theorem ZxG (s:State) (h:s.Fits):ZtG (s.slots.map Zg) (s.pending.map ZM) (s.marks.map Zj) (s.answers.map ZS) (s.entries.map Zd) (Zb s.commits)=some (Yz s):=by
 rw [ZrF,ZzV _ h.slots h.slot,Option.bind_some,ZAE _ h.pending h.req,Option.bind_some,ZzW _ h.marks,Option.bind_some,Zz6 _ h.answers,Option.bind_some,ZAi _ h.entries h.entry,Option.bind_some,ZoH _ h.commits,Option.bind_some]
 unfold Yz
 cases Ve s.slots <;> cases (s.pending.all KO&&KL ltp s.pending) <;> cases (s.marks.all Y2&&KL ltm s.marks) <;> cases (s.answers.all VZ&&KL lta s.answers) <;> cases (s.entries.all V1&&KL lte s.entries) <;> cases s.commits.all ZbS <;> rfl
theorem s98 (s:State) (h:s.Fits):g98 (s.slots.map Zg) (s.pending.map ZM) (s.marks.map Zj) (s.answers.map ZS) (s.entries.map Zd) (Zb s.commits)=some (Yz s):=by
 have e:s.commits.all (ZhN true)=s.commits.all ZbS:=by congr
 rw [Zu1,ZAj _ h.slots h.slot,Option.bind_some,s94 _ _ h.commits,Option.bind_some,ZxB _ h.pending h.req,Zw2 _ h.marks,Zxm _ h.answers,Zxf _ h.entries h.entry,e]
 unfold Yz
 cases Ve s.slots <;> cases (s.pending.all KO&&KL ltp s.pending) <;> cases (s.marks.all Y2&&KL ltm s.marks) <;> cases (s.answers.all VZ&&KL lta s.answers) <;> cases (s.entries.all V1&&KL lte s.entries) <;> cases s.commits.all ZbS <;> rfl
end Go.Proofs.YtljejgmcgddppaaGreat
end

section
namespace Go.Proofs.YtljejgmcgddppaaGreat
open Go Go.AM
set_option linter.unusedSimpArgs false
set_option linter.unusedVariables false
set_option maxRecDepth 100000
theorem ZAM {n:Nat} (h:n≤maxLen):n < 2 ^ 63:=by
 have:maxLen+1=2 ^ 63:=by decide
 omega
def Zl5 (s:State):List AV:=[.slice false 15 (s.slots.map Zg),.slice false 28 (s.pending.map ZM),.slice false 4 (s.marks.map Zj),.slice false 2 (s.answers.map ZS),.slice false 13 (s.entries.map Zd),.slice false 3 (Zb s.commits)]
end Go.Proofs.YtljejgmcgddppaaGreat
end

section
namespace Go.Proofs.YtljejgmcgddppaaGreat
open Go Go.AM
set_option linter.unusedSimpArgs false
set_option linter.unusedVariables false
set_option maxRecDepth 100000
theorem ZJ (l:List Int):(Za l).length=l.length:=by simp [Za]
theorem Zg2 (l:List Int) (n:Nat):(Za l).take n=Za (l.take n):=by simp [Za,List.map_take]
def Jw (z:Int):Bool:=decide (0≤z∧z≤1073741824)
def K6 (m:Zi1):Bool:=Z2 m.region&&Zs m.to
theorem s66 (z:Int):g66 z=some (Jw z):=by
 rw [ZsW]
 repeat' split
 all_goals (refine congrArg some ?_; rw [Zi]; simp only [Jw,CQ] at *; omega)
theorem s89 (z:Int):g89 z=some (Jw z):=by
 rw [Zsz]
 repeat' split
 all_goals (refine congrArg some ?_; rw [Zi]; simp only [Jw,CQ] at *; omega)
theorem ZAQ (x:Y5) (hx:x.path.length < 2 ^ 63):ZwD x.id.core x.id.op x.id.part (Zb x.path) x.cap.kind x.cap.base x.cap.bits x.cap.rights x.cap.width x.cap.level x.cap.device=some (!ZF x):=by
 rw [ZpI,ZtO x hx,Option.bind_some]
theorem Zop (l:List Y5) (hl:l.length < 2 ^ 63) (hp:∀ x∈l,x.path.length < 2 ^ 63):∃ r,ZfW (l.map Js)=some r∧cop .geq r 0 = !(l.all ZF):=by
 rw [ZiK,List.length_map]
 have:=Yx (F:=fun k i=>Km k (l.map Js) (l.length:Int) i) (n:=l.length) (fun i=>!atB ZF l i) hl
  (fun k i hi=>by
   show Km (k+1) _ _ _=_
   rw [Za7,if_pos (ZX hi)]
   refine (Yu hi _).trans ?_
   simp only [ZfR,d2,d4,d8,d16]
   rw [ZAQ l[i] (hp _ (List.getElem_mem hi)),Option.bind_some,ZQ hi hl,Ja _ hi])
  (fun k i hi=>by show Km (k+1) _ _ _=_; rw [Za7,if_neg (ZZ hi)])
 rw [VU] at this
 exact this
theorem Zn5 (l:List Y5) (hl:l.length < 2 ^ 63) (hp:∀ x∈l,x.path.length < 2 ^ 63):Wj (l.map Js)=some (!(l.all ZF)):=by
 obtain ⟨r,h1,h2⟩:=Zop l hl hp
 rw [Zh1,h1,Option.bind_some,h2]
theorem ZAv (x:Id):Zx5 x.core x.op x.part=some (!WA x):=by
 rw [ZqF,ZuH,Option.bind_some,Ke]
theorem ZoB (l:List Id) (hl:l.length < 2 ^ 63):∃ r,ZfO (Zb l)=some r∧cop .geq r 0 = !(l.all WA):=by
 rw [ZiJ,ZY]
 have:=Yx (F:=fun k i=>Ks k (Zb l) (l.length:Int) i) (n:=l.length) (fun i=>!atB WA l i) hl
  (fun k i hi=>by
   show Ks (k+1) _ _ _=_
   rw [Za0,if_pos (ZX hi)]
   refine (Wi hi _).trans ?_
   dsimp only
   rw [ZAv l[i],Option.bind_some,ZQ hi hl,Ja _ hi])
  (fun k i hi=>by show Ks (k+1) _ _ _=_; rw [Za0,if_neg (ZZ hi)])
 rw [VU] at this
 exact this
theorem Zoa (l:List Id) (hl:l.length < 2 ^ 63):Zct (Zb l)=some (!(l.all WA)):=by
 obtain ⟨r,h1,h2⟩:=ZoB l hl
 rw [Zie,h1,Option.bind_some,h2]
theorem Zzw (x:Int):ZxU x=some (!Zs x):=by
 rw [ZrP,s67,Option.bind_some]
theorem ZoS (l:List Int) (hl:l.length < 2 ^ 63):∃ r,Zfp (Za l)=some r∧cop .geq r 0 = !(l.all Zs):=by
 rw [ZhX,ZJ]
 have:=Yx (F:=fun k i=>Kp k (Za l) (l.length:Int) i) (n:=l.length) (fun i=>!atB Zs l i) hl
  (fun k i hi=>by
   show Kp (k+1) _ _ _=_
   rw [Zav,if_pos (ZX hi)]
   refine (ZW hi _).trans ?_
   skip
   rw [Zzw l[i],Option.bind_some,ZQ hi hl,Ja _ hi])
  (fun k i hi=>by show Kp (k+1) _ _ _=_; rw [Zav,if_neg (ZZ hi)])
 rw [VU] at this
 exact this
theorem ZoW (l:List Int) (hl:l.length < 2 ^ 63):Zcm (Za l)=some (!(l.all Zs)):=by
 obtain ⟨r,h1,h2⟩:=ZoS l hl
 rw [Zic,h1,Option.bind_some,h2]
theorem ZAP (x:Int):ZyM x=some (!Zs x):=by
 rw [Zqg,s67,Option.bind_some]
theorem Zol (l:List Int) (hl:l.length < 2 ^ 63):∃ r,ZfQ (Za l)=some r∧cop .geq r 0 = !(l.all Zs):=by
 rw [Zir,ZJ]
 have:=Yx (F:=fun k i=>Kz k (Za l) (l.length:Int) i) (n:=l.length) (fun i=>!atB Zs l i) hl
  (fun k i hi=>by
   show Kz (k+1) _ _ _=_
   rw [ZaL,if_pos (ZX hi)]
   refine (ZW hi _).trans ?_
   skip
   rw [ZAP l[i],Option.bind_some,ZQ hi hl,Ja _ hi])
  (fun k i hi=>by show Kz (k+1) _ _ _=_; rw [ZaL,if_neg (ZZ hi)])
 rw [VU] at this
 exact this
theorem ZoJ (l:List Int) (hl:l.length < 2 ^ 63):Zfn (Za l)=some (!(l.all Zs)):=by
 obtain ⟨r,h1,h2⟩:=Zol l hl
 rw [ZhK,h1,Option.bind_some,h2]
theorem ZzB (x:Zi1):Zyd x.region x.to=some (!K6 x):=by
 rw [ZpT,Zvv,s67,Option.bind_some,Option.bind_some]
 unfold K6
 cases Z2 x.region <;> rfl
theorem Zo6 (l:List Zi1) (hl:l.length < 2 ^ 63):∃ r,Zfo (l.map Jt)=some r∧cop .geq r 0 = !(l.all K6):=by
 rw [ZhI,List.length_map]
 have:=Yx (F:=fun k i=>Ko k (l.map Jt) (l.length:Int) i) (n:=l.length) (fun i=>!atB K6 l i) hl
  (fun k i hi=>by
   show Ko (k+1) _ _ _=_
   rw [Zbb,if_pos (ZX hi)]
   refine (YN hi _).trans ?_
   dsimp only
   rw [ZzB l[i],Option.bind_some,ZQ hi hl,Ja _ hi])
  (fun k i hi=>by show Ko (k+1) _ _ _=_; rw [Zbb,if_neg (ZZ hi)])
 rw [VU] at this
 exact this
theorem ZoP (l:List Zi1) (hl:l.length < 2 ^ 63):Zcv (l.map Jt)=some (!(l.all K6)):=by
 obtain ⟨r,h1,h2⟩:=Zo6 l hl
 rw [Ziw,h1,Option.bind_some,h2]
def ltI (a b:Int):Bool:=decide (a < b)
def ZcF (l:List Int):Bool:=l.all Zs&&KL ltI l
theorem s95 (l:List Int) (hl:l.length < 2 ^ 63):g95 (Za l)=some (ZcF l):=by
 rw [ZtC]
 have:=ZL (F:=fun k i=>ZgO k (Za l) i) (n:=l.length) (fin:=some true) (bad:=some false) (fun i=>atB Zs l i&&Vn ltI l i) hl 0 (by omega)
  (fun k i _ hi=>by
   show ZgO (k+1) (Za l) _=_
   rw [Zjl,ZJ,if_pos (ZX hi)]
   refine (ZW hi _).trans ?_
   rw [ZQ hi hl,Ja _ hi]
   generalize ZgO k (Za l) ((i+1:Nat):Int)=X
   cases i with
   | zero =>
    simp only [s90,Option.bind_some,ZlV,Bool.false_eq_true,if_false,Vn,Bool.and_true]
    cases Zs l[0] <;> rfl
   | succ j =>
    simp only [s90,Option.bind_some,ZmD,if_true,Zd7 (show j+1 < 2 ^ 63 by omega),ZW (show j < l.length by omega),ZW hi,Kb _ hi]
    generalize l[j+1]=t
    generalize l[j]=u
    unfold ltI
    repeat' split
    all_goals (simp only [CQ] at * <;> grind))
  (fun k i hi=>by show ZgO (k+1) (Za l) _=_; rw [Zjl,ZJ,if_neg (ZZ hi)])
 rw [Nat.sub_zero,ZcA] at this
 refine Eq.trans this ?_
 unfold ZcF
 cases (l.all Zs&&KL ltI l) <;> rfl
theorem s99 (l:List Zi1) (hl:l.length < 2 ^ 63):g99 (l.map Jt)=some (l.all K6&&decide (l.length≤16)):=by
 rw [ZuW]
 have:=ZL (F:=fun k i=>ZhR k (l.map Jt) i) (n:=l.length) (fin:=some (cop .leq (l.length:Int) 16)) (bad:=some false) (atB K6 l) hl 0 (by omega)
  (fun k i _ hi=>by
   show ZhR (k+1) (l.map Jt) _=_
   rw [ZjO,List.length_map,if_pos (ZX hi)]
   refine (YN hi _).trans ?_
   rw [ZQ hi hl,Ja _ hi]
   generalize ZhR k (l.map Jt) ((i+1:Nat):Int)=X
   simp only [ZtT,s90,Option.bind_some,YN hi]
   generalize l[i]=t
   unfold K6
   cases Z2 t.region <;> cases Zs t.to <;> rfl)
  (fun k i hi=>by show ZhR (k+1) (l.map Jt) _=_; rw [ZjO,List.length_map,if_neg (ZZ hi)])
 rw [Nat.sub_zero,ZeK] at this
 refine Eq.trans this ?_
 have e:cop .leq (l.length:Int) 16=decide (l.length≤16):=by rw [Zi]; simp only [CQ]; omega
 rw [e]
 cases l.all K6 <;> rfl
theorem ZzJ (l:List Int) (hl:l.length < 2 ^ 63) (a:Int):∃ r,Zym (Za l) a=some r∧cop .geq r 0=l.any (fun x=>decide (a=x)):=by
 rw [ZqL,ZJ]
 have:=Yx (F:=fun k i=>Zej k (Za l) a (l.length:Int) i) (n:=l.length) (fun i=>!atB (fun x=>!decide (a=x)) l i) hl
  (fun k i hi=>by
   show Zej (k+1) _ _ _ _=_
   rw [Zgc,if_pos (ZX hi)]
   refine (ZW hi _).trans ?_
   rw [ZQ hi hl,Ja _ hi,Bool.not_not]
   rfl)
  (fun k i hi=>by show Zej (k+1) _ _ _ _=_; rw [Zgc,if_neg (ZZ hi)])
 rw [VU] at this
 have e:(!(l.all fun x=>!decide (a=x)))=l.any (fun x=>decide (a=x)):=by
  rw [List.any_eq_not_all_not]
 rw [e] at this
 exact this
theorem Zzz (l:List Int) (hl:l.length < 2 ^ 63) (a:Int):Zwo (Za l) a=some (l.any (fun x=>decide (a=x))):=by
 obtain ⟨r,h1,h2⟩:=ZzJ l hl a
 rw [Zqi,h1,Option.bind_some,h2]
theorem s55 (l:List Int) (hl:l.length < 2 ^ 63) (a:Int):g55 (Za l) a=some (l.any (fun x=>decide (a=x))):=by
 rw [ZtS]
 have:=ZL (F:=fun k i=>ZhP k (Za l) a i) (n:=l.length) (fin:=some false) (bad:=some true) (atB (fun x=>!decide (a=x)) l) hl 0 (by omega)
  (fun k i _ hi=>by
   show ZhP (k+1) (Za l) _ _=_
   rw [Zkj,ZJ,if_pos (ZX hi)]
   refine (ZW hi _).trans ?_
   rw [ZQ hi hl,Ja _ hi]
   generalize ZhP k (Za l) a ((i+1:Nat):Int)=X
   generalize l[i]=t
   by_cases h:a=t
   ·rw [if_pos (by simp only [CQ]; exact h.symm),if_neg (by simp [h])]
   ·rw [if_neg (by simp only [CQ]; exact fun he=>h he.symm),if_pos (by simp [h])])
  (fun k i hi=>by show ZhP (k+1) (Za l) _ _=_; rw [Zkj,ZJ,if_neg (ZZ hi)])
 rw [Nat.sub_zero,ZeK] at this
 refine Eq.trans this ?_
 rw [List.any_eq_not_all_not]
 cases l.all (fun x=>!decide (a=x)) <;> rfl
def ZdY (l:List Int) (i:Nat):Bool:=match l[i]? with | some x=>!((l.take i).any (fun y=>decide (x=y))) | none=>true
def K1 (v:View):Bool:=Jw v.number&&decide (v.members.length≤32)&&decide (v.owners.length≤16)&&(List.range' 0 v.members.length).all (fun i=>atB Zs v.members i&&ZdY v.members i)&&v.owners.all Zs
theorem Zj1 {l:List Int} {i:Nat} (hi:i < l.length):ZdY l i = !((l.take i).any (fun y=>decide (l[i]=y))):=by
 unfold ZdY; rw [List.getElem?_eq_getElem hi]
theorem ZwB (v:View) (h1:v.members.length < 2 ^ 63) (h2:v.owners.length < 2 ^ 63):Zt8 v.number (Za v.members) (Za v.owners)=some (K1 v):=by
 rw [ZrW,ZJ,ZJ,s66,Option.bind_some]
 have:=ZL (F:=fun k i=>Zdz k v.number (Za v.members) (Za v.owners) (Za v.members) (v.members.length:Int) i) (n:=v.members.length) (fin:=some (v.owners.all Zs)) (bad:=some false) (fun i=>atB Zs v.members i&&ZdY v.members i) h1 0 (by omega)
  (fun k i _ hi=>by
   show Zdz (k+1) _ _ _ _ _ _=_
   rw [Zg8,if_pos (ZX hi)]
   refine (ZW hi _).trans ?_
   rw [s67,Option.bind_some,Ze (by omega),Ze (by rw [ZJ]; omega),Int.toNat_natCast,Zg2,Zzz _ (by rw [List.length_take]; omega),Option.bind_some,ZQ hi h1,Ja _ hi,Zj1 hi]
   cases Zs v.members[i] <;> cases (v.members.take i).any (fun y=>decide (v.members[i]=y)) <;> rfl)
  (fun k i hi=>by
   show Zdz (k+1) _ _ _ _ _ _=_
   rw [Zg8,if_neg (ZZ hi),ZoJ _ h2,Option.bind_some,Bool.not_not])
 rw [Nat.sub_zero] at this
 have this:Zdz Zx v.number (Za v.members) (Za v.owners) (Za v.members) (v.members.length:Int) 0=_:=this
 rw [this]
 unfold K1
 by_cases a1:v.members.length≤32
 ·by_cases a2:v.owners.length≤16
  ·rw [if_neg (show ¬ (cop .gtr (v.members.length:Int) 32)=true by simp only [CQ]; omega),if_neg (show ¬ (cop .gtr (v.owners.length:Int) 16)=true by simp only [CQ]; omega),decide_eq_true a1,decide_eq_true a2]
   cases Jw v.number <;> cases (List.range' 0 v.members.length).all (fun i=>atB Zs v.members i&&ZdY v.members i) <;> rfl
  ·rw [if_neg (show ¬ (cop .gtr (v.members.length:Int) 32)=true by simp only [CQ]; omega),if_pos (show (cop .gtr (v.owners.length:Int) 16)=true by simp only [CQ]; omega),decide_eq_false a2]
   cases Jw v.number <;> simp
 ·rw [if_pos (show (cop .gtr (v.members.length:Int) 32)=true by simp only [CQ]; omega),decide_eq_false a1]
  cases Jw v.number <;> simp
theorem s97 (v:View) (h1:v.members.length < 2 ^ 63) (h2:v.owners.length < 2 ^ 63):g97 v.number (Za v.members) (Za v.owners)=some (K1 v):=by
 rw [ZsZ,ZJ,ZJ,s89,Option.bind_some]
 have l0:=ZL (F:=fun k i=>ZhE k v.number (Za v.members) (Za v.owners) i) (n:=v.owners.length) (fin:=some true) (bad:=some false) (atB Zs v.owners) h2 0 (by omega)
  (fun k i _ hi=>by
   show ZhE (k+1) _ _ _ _=_
   rw [Zjk,ZJ,if_pos (ZX hi)]
   refine (ZW hi _).trans ?_
   rw [s90,Option.bind_some,ZQ hi h2,Ja _ hi]
   cases Zs v.owners[i] <;> rfl)
  (fun k i hi=>by
   show ZhE (k+1) _ _ _ _=_
   rw [Zjk,ZJ,if_neg (ZZ hi)])
 rw [Nat.sub_zero,ZeK] at l0
 have l0:ZhE Zx v.number (Za v.members) (Za v.owners) 0=_:=l0
 have:=ZL (F:=fun k i=>ZhZ k v.number (Za v.members) (Za v.owners) i) (n:=v.members.length) (fin:=some (v.owners.all Zs)) (bad:=some false) (fun i=>atB Zs v.members i&&ZdY v.members i) h1 0 (by omega)
  (fun k i _ hi=>by
   show ZhZ (k+1) _ _ _ _=_
   rw [Zj8,ZJ,if_pos (ZX hi)]
   refine (ZW hi _).trans ?_
   rw [s90,Option.bind_some,Ze (by omega),Ze (by omega),Int.toNat_natCast,Zg2,ZQ hi h1,Ja _ hi,Zj1 hi]
   simp only [ZW hi]
   rw [s55 _ (by rw [List.length_take]; omega),Option.bind_some]
   cases Zs v.members[i] <;> cases (v.members.take i).any (fun y=>decide (v.members[i]=y)) <;> rfl)
  (fun k i hi=>by
   show ZhZ (k+1) _ _ _ _=_
   rw [Zj8,ZJ,if_neg (ZZ hi),l0]
   cases v.owners.all Zs <;> rfl)
 rw [Nat.sub_zero] at this
 have this:ZhZ Zx v.number (Za v.members) (Za v.owners) 0=_:=this
 rw [this]
 unfold K1
 by_cases a1:v.members.length≤32
 ·by_cases a2:v.owners.length≤16
  ·rw [if_neg (show ¬ (cop .gtr (v.members.length:Int) 32)=true by simp only [CQ]; omega),if_neg (show ¬ (cop .gtr (v.owners.length:Int) 16)=true by simp only [CQ]; omega),decide_eq_true a1,decide_eq_true a2]
   cases Jw v.number <;> cases (List.range' 0 v.members.length).all (fun i=>atB Zs v.members i&&ZdY v.members i) <;> rfl
  ·rw [if_neg (show ¬ (cop .gtr (v.members.length:Int) 32)=true by simp only [CQ]; omega),if_pos (show (cop .gtr (v.owners.length:Int) 16)=true by simp only [CQ]; omega),decide_eq_false a2]
   cases Jw v.number <;> simp
 ·rw [if_pos (show (cop .gtr (v.members.length:Int) 32)=true by simp only [CQ]; omega),decide_eq_false a1]
  cases Jw v.number <;> simp
structure View.Fits (v:View):Prop where
 members:v.members.length < 2 ^ 63
 owners:v.owners.length < 2 ^ 63
structure Report.Fits (r:Report):Prop where
 view:r.view.Fits
 state:r.state.Fits
 next:r.next.Fits
 proposal:r.proposal.Fits
def ZiE (r:Report):Bool:=Zs r.core&&K1 r.view&&Yz r.state&&K1 r.next&&Yz r.proposal
theorem ZAp (r:Report) (h:r.Fits):Zxq r.core r.view.number (Za r.view.members) (Za r.view.owners) (r.state.slots.map Zg) (r.state.pending.map ZM) (r.state.marks.map Zj) (r.state.answers.map ZS) (r.state.entries.map Zd) (Zb r.state.commits) r.ready r.next.number (Za r.next.members) (Za r.next.owners) (r.proposal.slots.map Zg) (r.proposal.pending.map ZM) (r.proposal.marks.map Zj) (r.proposal.answers.map ZS) (r.proposal.entries.map Zd) (Zb r.proposal.commits)=some (ZiE r):=by
 rw [Zqf,s67,Option.bind_some,ZwB _ h.view.members h.view.owners,Option.bind_some,ZxG _ h.state,Option.bind_some,ZwB _ h.next.members h.next.owners,Option.bind_some,ZxG _ h.proposal,Option.bind_some]
 unfold ZiE
 cases Zs r.core <;> cases K1 r.view <;> cases Yz r.state <;> cases K1 r.next <;> cases Yz r.proposal <;> rfl
theorem s96 (r:Report) (h:r.Fits):g96 r.core r.view.number (Za r.view.members) (Za r.view.owners) (r.state.slots.map Zg) (r.state.pending.map ZM) (r.state.marks.map Zj) (r.state.answers.map ZS) (r.state.entries.map Zd) (Zb r.state.commits) r.ready r.next.number (Za r.next.members) (Za r.next.owners) (r.proposal.slots.map Zg) (r.proposal.pending.map ZM) (r.proposal.marks.map Zj) (r.proposal.answers.map ZS) (r.proposal.entries.map Zd) (Zb r.proposal.commits)=some (ZiE r):=by
 rw [ZtF,s90,Option.bind_some,s97 _ h.view.members h.view.owners,Option.bind_some,s98 _ h.state,Option.bind_some,s97 _ h.next.members h.next.owners,Option.bind_some,s98 _ h.proposal,Option.bind_some]
 unfold ZiE
 cases Zs r.core <;> cases K1 r.view <;> cases Yz r.state <;> cases K1 r.next <;> cases Yz r.proposal <;> rfl
end Go.Proofs.YtljejgmcgddppaaGreat
end

section
namespace Go.Proofs.YtljejgmcgddppaaGreat
open Go Go.AM
set_option linter.unusedSimpArgs false
set_option linter.unusedVariables false
set_option maxRecDepth 100000
structure Msg where
 kind:Int
 view:Int
 frm:Int
 to:Int
 round:Int
 region:Int
 slot:Int
 op:Id
 err:Int
 settled:Bool
 req:Req
 ids:List Id
 nodes:List Y5
 cores:List Int
 moves:List Zi1
 base:Int
 next:View
 state:State
 report:Report
structure Msg.Fits (m:Msg):Prop where
 req:m.req.src.path.length < 2 ^ 63
 ids:m.ids.length < 2 ^ 63
 nodes:m.nodes.length < 2 ^ 63
 node:∀ x∈m.nodes,x.path.length < 2 ^ 63
 cores:m.cores.length < 2 ^ 63
 moves:m.moves.length < 2 ^ 63
 next:m.next.Fits
 state:m.state.Fits
 report:m.report.Fits
def Zm4 (m:Msg):Qt2:=(m.kind,m.view,m.frm,m.to,m.round,m.region,m.slot,m.op.core,m.op.op,m.op.part,m.err,m.settled,m.req.id.core,m.req.id.op,m.req.id.part,m.req.call.kind,m.req.call.slot,m.req.call.dest,m.req.call.core,m.req.call.mask,m.req.call.object,m.req.call.bits,m.req.call.level,m.req.call.offset,m.req.call.count,m.req.call.index,m.req.call.addr,m.req.region,m.req.width,m.req.src.id.core,m.req.src.id.op,m.req.src.id.part,(Zb m.req.src.path),m.req.src.cap.kind,m.req.src.cap.base,m.req.src.cap.bits,m.req.src.cap.rights,m.req.src.cap.width,m.req.src.cap.level,m.req.src.cap.device,(Zb m.ids),(m.nodes.map Js),(Za m.cores),(m.moves.map Jt),m.base,m.next.number,(Za m.next.members),(Za m.next.owners),(m.state.slots.map Zg),(m.state.pending.map ZM),(m.state.marks.map Zj),(m.state.answers.map ZS),(m.state.entries.map Zd),(Zb m.state.commits),m.report.core,m.report.view.number,(Za m.report.view.members),(Za m.report.view.owners),(m.report.state.slots.map Zg),(m.report.state.pending.map ZM),(m.report.state.marks.map Zj),(m.report.state.answers.map ZS),(m.report.state.entries.map Zd),(Zb m.report.state.commits),m.report.ready,m.report.next.number,(Za m.report.next.members),(Za m.report.next.owners),(m.report.proposal.slots.map Zg),(m.report.proposal.pending.map ZM),(m.report.proposal.marks.map Zj),(m.report.proposal.answers.map ZS),(m.report.proposal.entries.map Zd),(Zb m.report.proposal.commits))
def ZsN:Call:=⟨0,0,0,0,0,0,0,0,0,0,0,0⟩
def Z7:Req:=⟨zid,ZsN,0,0,Z0⟩
def ZD:View:=⟨0,[],[]⟩
def Zk:State:=⟨[],[],[],[],[],[]⟩
def Zm:Report:=⟨0,ZD,Zk,false,ZD,Zk⟩
def clr (m:Msg):Nat→Msg
 | 0 => { m with region := 0 }
 | 1 => { m with req := Z7 }
 | 2 => { m with op := zid }
 | 3 => { m with err := 0 }
 | 4 => { m with settled := false }
 | 5 => { m with nodes := [] }
 | 6 => { m with slot := 0 }
 | 7 => { m with ids := [] }
 | 8 => { m with round := 0 }
 | 9 => { m with cores := [] }
 | 10 => { m with report := Zm }
 | 11 => { m with base := 0 }
 | 12 => { m with next := ZD }
 | 13 => { m with state := Zk }
 | 14 => { m with moves := [] }
 | _ => m
theorem s69 (m:Msg):∀ f:Nat,f < 15→g69 m.kind m.view m.frm m.to m.round m.region m.slot m.op.core m.op.op m.op.part m.err m.settled m.req.id.core m.req.id.op m.req.id.part m.req.call.kind m.req.call.slot m.req.call.dest m.req.call.core m.req.call.mask m.req.call.object m.req.call.bits m.req.call.level m.req.call.offset m.req.call.count m.req.call.index m.req.call.addr m.req.region m.req.width m.req.src.id.core m.req.src.id.op m.req.src.id.part (Zb m.req.src.path) m.req.src.cap.kind m.req.src.cap.base m.req.src.cap.bits m.req.src.cap.rights m.req.src.cap.width m.req.src.cap.level m.req.src.cap.device (Zb m.ids) (m.nodes.map Js) (Za m.cores) (m.moves.map Jt) m.base m.next.number (Za m.next.members) (Za m.next.owners) (m.state.slots.map Zg) (m.state.pending.map ZM) (m.state.marks.map Zj) (m.state.answers.map ZS) (m.state.entries.map Zd) (Zb m.state.commits) m.report.core m.report.view.number (Za m.report.view.members) (Za m.report.view.owners) (m.report.state.slots.map Zg) (m.report.state.pending.map ZM) (m.report.state.marks.map Zj) (m.report.state.answers.map ZS) (m.report.state.entries.map Zd) (Zb m.report.state.commits) m.report.ready m.report.next.number (Za m.report.next.members) (Za m.report.next.owners) (m.report.proposal.slots.map Zg) (m.report.proposal.pending.map ZM) (m.report.proposal.marks.map Zj) (m.report.proposal.answers.map ZS) (m.report.proposal.entries.map Zd) (Zb m.report.proposal.commits) (f:Int)=some (Zm4 (clr m f))
 | 0, _ => by rw [KK]; rfl
 | 1, _ => by rw [KK]; rfl
 | 2, _ => by rw [KK]; rfl
 | 3, _ => by rw [KK]; rfl
 | 4, _ => by rw [KK]; rfl
 | 5, _ => by rw [KK]; rfl
 | 6, _ => by rw [KK]; rfl
 | 7, _ => by rw [KK]; rfl
 | 8, _ => by rw [KK]; rfl
 | 9, _ => by rw [KK]; rfl
 | 10, _ => by rw [KK]; rfl
 | 11, _ => by rw [KK]; rfl
 | 12, _ => by rw [KK]; rfl
 | 13, _ => by rw [KK]; rfl
 | 14, _ => by rw [KK]; rfl
theorem ZAV (m:Msg) {j:Nat} (hj:j+1 < m.cores.length):Zwp (j:Int) ((j+1:Nat):Int) m.kind m.view m.frm m.to m.round m.region m.slot m.op.core m.op.op m.op.part m.err m.settled m.req.id.core m.req.id.op m.req.id.part m.req.call.kind m.req.call.slot m.req.call.dest m.req.call.core m.req.call.mask m.req.call.object m.req.call.bits m.req.call.level m.req.call.offset m.req.call.count m.req.call.index m.req.call.addr m.req.region m.req.width m.req.src.id.core m.req.src.id.op m.req.src.id.part (Zb m.req.src.path) m.req.src.cap.kind m.req.src.cap.base m.req.src.cap.bits m.req.src.cap.rights m.req.src.cap.width m.req.src.cap.level m.req.src.cap.device (Zb m.ids) (m.nodes.map Js) (Za m.cores) (m.moves.map Jt) m.base m.next.number (Za m.next.members) (Za m.next.owners) (m.state.slots.map Zg) (m.state.pending.map ZM) (m.state.marks.map Zj) (m.state.answers.map ZS) (m.state.entries.map Zd) (Zb m.state.commits) m.report.core m.report.view.number (Za m.report.view.members) (Za m.report.view.owners) (m.report.state.slots.map Zg) (m.report.state.pending.map ZM) (m.report.state.marks.map Zj) (m.report.state.answers.map ZS) (m.report.state.entries.map Zd) (Zb m.report.state.commits) m.report.ready m.report.next.number (Za m.report.next.members) (Za m.report.next.owners) (m.report.proposal.slots.map Zg) (m.report.proposal.pending.map ZM) (m.report.proposal.marks.map Zj) (m.report.proposal.answers.map ZS) (m.report.proposal.entries.map Zd) (Zb m.report.proposal.commits)=some (ltI m.cores[j] m.cores[j+1],Zm4 m):=by
 rw [ZqH]
 refine (ZW (show j < m.cores.length by omega) _).trans ?_
 refine (ZW hj _).trans ?_
 rfl
theorem Zou (m:Msg) (h:m.Fits):Zcg (m.cores.length:Int) m.kind m.view m.frm m.to m.round m.region m.slot m.op.core m.op.op m.op.part m.err m.settled m.req.id.core m.req.id.op m.req.id.part m.req.call.kind m.req.call.slot m.req.call.dest m.req.call.core m.req.call.mask m.req.call.object m.req.call.bits m.req.call.level m.req.call.offset m.req.call.count m.req.call.index m.req.call.addr m.req.region m.req.width m.req.src.id.core m.req.src.id.op m.req.src.id.part (Zb m.req.src.path) m.req.src.cap.kind m.req.src.cap.base m.req.src.cap.bits m.req.src.cap.rights m.req.src.cap.width m.req.src.cap.level m.req.src.cap.device (Zb m.ids) (m.nodes.map Js) (Za m.cores) (m.moves.map Jt) m.base m.next.number (Za m.next.members) (Za m.next.owners) (m.state.slots.map Zg) (m.state.pending.map ZM) (m.state.marks.map Zj) (m.state.answers.map ZS) (m.state.entries.map Zd) (Zb m.state.commits) m.report.core m.report.view.number (Za m.report.view.members) (Za m.report.view.owners) (m.report.state.slots.map Zg) (m.report.state.pending.map ZM) (m.report.state.marks.map Zj) (m.report.state.answers.map ZS) (m.report.state.entries.map Zd) (Zb m.report.state.commits) m.report.ready m.report.next.number (Za m.report.next.members) (Za m.report.next.owners) (m.report.proposal.slots.map Zg) (m.report.proposal.pending.map ZM) (m.report.proposal.marks.map Zj) (m.report.proposal.answers.map ZS) (m.report.proposal.entries.map Zd) (Zb m.report.proposal.commits)=some (KL ltI m.cores,Zm4 m):=by
 rw [ZiQ]
 have:=ZL (F:=fun k i=>Wd k (m.cores.length:Int) i m.kind m.view m.frm m.to m.round m.region m.slot m.op.core m.op.op m.op.part m.err m.settled m.req.id.core m.req.id.op m.req.id.part m.req.call.kind m.req.call.slot m.req.call.dest m.req.call.core m.req.call.mask m.req.call.object m.req.call.bits m.req.call.level m.req.call.offset m.req.call.count m.req.call.index m.req.call.addr m.req.region m.req.width m.req.src.id.core m.req.src.id.op m.req.src.id.part (Zb m.req.src.path) m.req.src.cap.kind m.req.src.cap.base m.req.src.cap.bits m.req.src.cap.rights m.req.src.cap.width m.req.src.cap.level m.req.src.cap.device (Zb m.ids) (m.nodes.map Js) (Za m.cores) (m.moves.map Jt) m.base m.next.number (Za m.next.members) (Za m.next.owners) (m.state.slots.map Zg) (m.state.pending.map ZM) (m.state.marks.map Zj) (m.state.answers.map ZS) (m.state.entries.map Zd) (Zb m.state.commits) m.report.core m.report.view.number (Za m.report.view.members) (Za m.report.view.owners) (m.report.state.slots.map Zg) (m.report.state.pending.map ZM) (m.report.state.marks.map Zj) (m.report.state.answers.map ZS) (m.report.state.entries.map Zd) (Zb m.report.state.commits) m.report.ready m.report.next.number (Za m.report.next.members) (Za m.report.next.owners) (m.report.proposal.slots.map Zg) (m.report.proposal.pending.map ZM) (m.report.proposal.marks.map Zj) (m.report.proposal.answers.map ZS) (m.report.proposal.entries.map Zd) (Zb m.report.proposal.commits)) (n:=m.cores.length) (fin:=some (true,Zm4 m)) (bad:=some (false,Zm4 m)) (Vn ltI m.cores) h.cores 1 (by omega)
  (fun k i h1 hi=>by
   obtain ⟨j,rfl⟩:∃ j,i=j+1:=⟨i - 1,by omega⟩
   refine (ZaB ..).trans ?_
   rw [if_pos (ZX hi),Zd7 (by have:=h.cores; omega),ZAV m hi,Option.bind_some,ZQ hi h.cores,Kb _ hi]
   cases ltI m.cores[j] m.cores[j+1] <;> rfl)
  (fun k i hi=>by refine (ZaB ..).trans ?_; rw [if_neg (ZZ hi)]; rfl)
 rw [ZuI] at this
 refine Eq.trans this ?_
 cases KL ltI m.cores <;> rfl
def Zh (m:Msg):Nat→Bool
 | 0 => Z2 m.region
 | 1 => KO m.req
 | 2 => ZbS m.op
 | 3 => Zc8 m.err
 | 5 => decide (m.nodes.length ≤ 8) && (decide (m.kind ≠ 4) || decide (m.nodes.length = 1)) && m.nodes.all ZF
 | 6 => Jr m.slot
 | 7 => decide (m.ids.length ≤ 64) && m.ids.all WA
 | 8 => Jw m.round
 | 9 => ZcF m.cores
 | 10 => ZiE m.report
 | 11 => Jw m.base
 | 12 => K1 m.next
 | 13 => Yz m.state
 | 14 => decide (m.moves.length ≤ 16) && m.moves.all K6
 | _ => true
theorem s68 (m:Msg) (h:m.Fits):∀ f:Nat,f < 15→g68 m.kind m.view m.frm m.to m.round m.region m.slot m.op.core m.op.op m.op.part m.err m.settled m.req.id.core m.req.id.op m.req.id.part m.req.call.kind m.req.call.slot m.req.call.dest m.req.call.core m.req.call.mask m.req.call.object m.req.call.bits m.req.call.level m.req.call.offset m.req.call.count m.req.call.index m.req.call.addr m.req.region m.req.width m.req.src.id.core m.req.src.id.op m.req.src.id.part (Zb m.req.src.path) m.req.src.cap.kind m.req.src.cap.base m.req.src.cap.bits m.req.src.cap.rights m.req.src.cap.width m.req.src.cap.level m.req.src.cap.device (Zb m.ids) (m.nodes.map Js) (Za m.cores) (m.moves.map Jt) m.base m.next.number (Za m.next.members) (Za m.next.owners) (m.state.slots.map Zg) (m.state.pending.map ZM) (m.state.marks.map Zj) (m.state.answers.map ZS) (m.state.entries.map Zd) (Zb m.state.commits) m.report.core m.report.view.number (Za m.report.view.members) (Za m.report.view.owners) (m.report.state.slots.map Zg) (m.report.state.pending.map ZM) (m.report.state.marks.map Zj) (m.report.state.answers.map ZS) (m.report.state.entries.map Zd) (Zb m.report.state.commits) m.report.ready m.report.next.number (Za m.report.next.members) (Za m.report.next.owners) (m.report.proposal.slots.map Zg) (m.report.proposal.pending.map ZM) (m.report.proposal.marks.map Zj) (m.report.proposal.answers.map ZS) (m.report.proposal.entries.map Zd) (Zb m.report.proposal.commits) (f:Int)=some (Zh m f)
 | 0, _ => by
   refine (KI ..).trans ?_
   exact (congrArg (fun x=>Option.bind x some) (Zvv _))
 | 1, _ => by
   refine (KI ..).trans ?_
   exact (congrArg (fun x=>Option.bind x some) (Zzs _ h.req))
 | 2, _ => by
   refine (KI ..).trans ?_
   exact (congrArg (fun x=>Option.bind x some) (Zwf _))
 | 3, _ => by
   refine (KI ..).trans ?_
   exact (congrArg (fun x=>Option.bind x some) (ZyR _))
 | 4, _ => by
   refine (KI ..).trans ?_
   rfl
 | 5, _ => by
   refine (KI ..).trans ?_
   show (if (cop .gtr ((m.nodes.map Js).length:Int) 8)=true then some false else if (cop .eql m.kind 4)=true then (if (cop .neq ((m.nodes.map Js).length:Int) 1)=true then some false else (Wj (m.nodes.map Js)).bind fun r=>some (!r)) else (Wj (m.nodes.map Js)).bind fun r=>some (!r))=_
   rw [List.length_map,Zn5 _ h.nodes h.node]
   repeat' split
   all_goals (refine congrArg some ?_; rw [Zi]; simp only [Zh,Bool.not_not,CQ] at * <;> grind)
 | 6, _ => by
   refine (KI ..).trans ?_
   exact (congrArg (fun x=>Option.bind x some) (Zy2 _))
 | 7, _ => by
   refine (KI ..).trans ?_
   show (if (cop .leq ((Zb m.ids).length:Int) 64)=true then (Zct (Zb m.ids)).bind fun r=>some (!r) else some false)=_
   rw [ZY,Zoa _ h.ids]
   repeat' split
   all_goals (refine congrArg some ?_; rw [Zi]; simp only [Zh,Bool.not_not,CQ] at * <;> grind)
 | 8, _ => by
   refine (KI ..).trans ?_
   exact (congrArg (fun x=>Option.bind x some) (s66 _))
 | 9, _ => by
   refine (KI ..).trans ?_
   show ((Zcm (Za m.cores)).bind fun (r:Bool)=>if (!r)=true then (Zcg ((Za m.cores).length:Int) m.kind m.view m.frm m.to m.round m.region m.slot m.op.core m.op.op m.op.part m.err m.settled m.req.id.core m.req.id.op m.req.id.part m.req.call.kind m.req.call.slot m.req.call.dest m.req.call.core m.req.call.mask m.req.call.object m.req.call.bits m.req.call.level m.req.call.offset m.req.call.count m.req.call.index m.req.call.addr m.req.region m.req.width m.req.src.id.core m.req.src.id.op m.req.src.id.part (Zb m.req.src.path) m.req.src.cap.kind m.req.src.cap.base m.req.src.cap.bits m.req.src.cap.rights m.req.src.cap.width m.req.src.cap.level m.req.src.cap.device (Zb m.ids) (m.nodes.map Js) (Za m.cores) (m.moves.map Jt) m.base m.next.number (Za m.next.members) (Za m.next.owners) (m.state.slots.map Zg) (m.state.pending.map ZM) (m.state.marks.map Zj) (m.state.answers.map ZS) (m.state.entries.map Zd) (Zb m.state.commits) m.report.core m.report.view.number (Za m.report.view.members) (Za m.report.view.owners) (m.report.state.slots.map Zg) (m.report.state.pending.map ZM) (m.report.state.marks.map Zj) (m.report.state.answers.map ZS) (m.report.state.entries.map Zd) (Zb m.report.state.commits) m.report.ready m.report.next.number (Za m.report.next.members) (Za m.report.next.owners) (m.report.proposal.slots.map Zg) (m.report.proposal.pending.map ZM) (m.report.proposal.marks.map Zj) (m.report.proposal.answers.map ZS) (m.report.proposal.entries.map Zd) (Zb m.report.proposal.commits)).bind fun r=>some r.1 else some false)=_
   rw [ZoW _ h.cores,ZJ,Zou m h,Option.bind_some,Option.bind_some]
   show _=some (m.cores.all Zs&&KL ltI m.cores)
   cases m.cores.all Zs <;> rfl
 | 10, _ => by
   refine (KI ..).trans ?_
   exact (congrArg (fun x=>Option.bind x some) (ZAp _ h.report))
 | 11, _ => by
   refine (KI ..).trans ?_
   exact (congrArg (fun x=>Option.bind x some) (s66 _))
 | 12, _ => by
   refine (KI ..).trans ?_
   exact (congrArg (fun x=>Option.bind x some) (ZwB _ h.next.members h.next.owners))
 | 13, _ => by
   refine (KI ..).trans ?_
   exact (congrArg (fun x=>Option.bind x some) (ZxG _ h.state))
 | 14, _ => by
   refine (KI ..).trans ?_
   show (if (cop .leq ((m.moves.map Jt).length:Int) 16)=true then (Zcv (m.moves.map Jt)).bind fun r=>some (!r) else some false)=_
   rw [List.length_map,ZoP _ h.moves]
   repeat' split
   all_goals (refine congrArg some ?_; rw [Zi]; simp only [Zh,Bool.not_not,CQ] at * <;> grind)
def Zr5 (r:Req):Bool:=decide (r.id=zid)&&decide (r.call.kind=0∧r.call.slot=0∧r.call.dest=0∧r.call.core=0∧r.call.mask=0∧r.call.object=0∧r.call.bits=0∧r.call.level=0∧r.call.offset=0∧r.call.count=0∧r.call.index=0∧r.call.addr=0)&&decide (r.region=0)&&decide (r.width=0)&&KM r.src Z0
def Zd6 (v:View):Bool:=decide (v.number=0)&&decide (v.members.length=0)&&decide (v.owners.length=0)
def Zaf (s:State):Bool:=decide (s.slots.length=0)&&decide (s.pending.length=0)&&decide (s.marks.length=0)&&decide (s.answers.length=0)&&decide (s.entries.length=0)&&decide (s.commits.length=0)
def Zbw (r:Report):Bool:=decide (r.core=0)&&Zd6 r.view&&Zaf r.state&&!r.ready&&Zd6 r.next&&Zaf r.proposal
theorem Zlm (n:Nat):cop .eql (n:Int) 0=decide (n=0):=by rw [Zi]; simp only [CQ]; omega
theorem Zq5 (z:Int):cop .eql z 0=decide (z=0):=rfl
theorem ZAy (r:Req) (h:r.src.path.length < 2 ^ 63):ZyC r.id.core r.id.op r.id.part r.call.kind r.call.slot r.call.dest r.call.core r.call.mask r.call.object r.call.bits r.call.level r.call.offset r.call.count r.call.index r.call.addr r.region r.width r.src.id.core r.src.id.op r.src.id.part (Zb r.src.path) r.src.cap.kind r.src.cap.base r.src.cap.bits r.src.cap.rights r.src.cap.width r.src.cap.level r.src.cap.device=some (Zr5 r):=by
 rw [ZrK,Zrf _ h,Option.bind_some]
 simp only [Ya,Ke]
 unfold Zr5
 repeat' split
 all_goals (refine congrArg some ?_; rw [Zi]; simp only [CQ] at * <;> grind)
theorem ZwO (v:View):ZuF v.number (Za v.members) (Za v.owners)=some (Zd6 v):=by
 rw [Zqr,ZJ,ZJ,Zlm,Zlm,Zq5]
 unfold Zd6
 cases decide (v.number=0) <;> cases decide (v.members.length=0) <;> rfl
theorem ZxM (s:State):ZsL (s.slots.map Zg) (s.pending.map ZM) (s.marks.map Zj) (s.answers.map ZS) (s.entries.map Zd) (Zb s.commits)=some (Zaf s):=by
 rw [Zrn,List.length_map,List.length_map,List.length_map,List.length_map,List.length_map,ZY,Zlm,Zlm,Zlm,Zlm,Zlm,Zlm]
 unfold Zaf
 cases decide (s.slots.length=0) <;> cases decide (s.pending.length=0) <;> cases decide (s.marks.length=0) <;> cases decide (s.answers.length=0) <;> cases decide (s.entries.length=0) <;> rfl
theorem ZzT (r:Report):ZxA r.core r.view.number (Za r.view.members) (Za r.view.owners) (r.state.slots.map Zg) (r.state.pending.map ZM) (r.state.marks.map Zj) (r.state.answers.map ZS) (r.state.entries.map Zd) (Zb r.state.commits) r.ready r.next.number (Za r.next.members) (Za r.next.owners) (r.proposal.slots.map Zg) (r.proposal.pending.map ZM) (r.proposal.marks.map Zj) (r.proposal.answers.map ZS) (r.proposal.entries.map Zd) (Zb r.proposal.commits)=some (Zbw r):=by
 rw [Zrc,ZwO,ZxM,ZwO,ZxM,Zq5,Option.bind_some,Option.bind_some,Option.bind_some,Option.bind_some]
 unfold Zbw
 cases decide (r.core=0) <;> cases Zd6 r.view <;> cases Zaf r.state <;> cases r.ready <;> cases Zd6 r.next <;> rfl
def zf (m:Msg):Nat→Bool
 | 0 => decide (m.region = 0)
 | 1 => Zr5 m.req
 | 2 => decide (m.op = zid)
 | 3 => decide (m.err = 0)
 | 4 => !m.settled
 | 5 => decide (m.nodes.length = 0)
 | 6 => decide (m.slot = 0)
 | 7 => decide (m.ids.length = 0)
 | 8 => decide (m.round = 0)
 | 9 => decide (m.cores.length = 0)
 | 10 => Zbw m.report
 | 11 => decide (m.base = 0)
 | 12 => Zd6 m.next
 | 13 => Zaf m.state
 | 14 => decide (m.moves.length = 0)
 | _ => true
def ZwN (m:Msg):Bool:=(List.range 15).all (zf m)
theorem Ju (b:Bool) {y:Bool} {x:Option Bool} (h:x=some y):(if b=true then x else some false)=some (b&&y):=by cases b <;> simp [h]
theorem s70 (m:Msg) (h:m.req.src.path.length < 2 ^ 63):g70 m.kind m.view m.frm m.to m.round m.region m.slot m.op.core m.op.op m.op.part m.err m.settled m.req.id.core m.req.id.op m.req.id.part m.req.call.kind m.req.call.slot m.req.call.dest m.req.call.core m.req.call.mask m.req.call.object m.req.call.bits m.req.call.level m.req.call.offset m.req.call.count m.req.call.index m.req.call.addr m.req.region m.req.width m.req.src.id.core m.req.src.id.op m.req.src.id.part (Zb m.req.src.path) m.req.src.cap.kind m.req.src.cap.base m.req.src.cap.bits m.req.src.cap.rights m.req.src.cap.width m.req.src.cap.level m.req.src.cap.device (Zb m.ids) (m.nodes.map Js) (Za m.cores) (m.moves.map Jt) m.base m.next.number (Za m.next.members) (Za m.next.owners) (m.state.slots.map Zg) (m.state.pending.map ZM) (m.state.marks.map Zj) (m.state.answers.map ZS) (m.state.entries.map Zd) (Zb m.state.commits) m.report.core m.report.view.number (Za m.report.view.members) (Za m.report.view.owners) (m.report.state.slots.map Zg) (m.report.state.pending.map ZM) (m.report.state.marks.map Zj) (m.report.state.answers.map ZS) (m.report.state.entries.map Zd) (Zb m.report.state.commits) m.report.ready m.report.next.number (Za m.report.next.members) (Za m.report.next.owners) (m.report.proposal.slots.map Zg) (m.report.proposal.pending.map ZM) (m.report.proposal.marks.map Zj) (m.report.proposal.answers.map ZS) (m.report.proposal.entries.map Zd) (Zb m.report.proposal.commits)=some (ZwN m):=by
 rw [Ztb,ZAy _ h,ZwO,ZxM,ZzT,ZY,List.length_map,ZJ,List.length_map,Zlm,Zlm,Zlm,Zlm,Zq5 m.round,Zq5 m.region,Zq5 m.slot,Zq5 m.err,Zq5 m.base]
 have e:((cop .eql m.op.core 0)&&((cop .eql m.op.op 0)&&((cop .eql m.op.part 0)&&true)))=decide (m.op=zid):=by
  rw [Zi,Ya,Ke,decide_eq_true_eq]
 rw [e]
 simp only [Option.bind_some]
 refine Eq.trans (Ju _ (Ju _ (Ju _ (Ju _ (Ju _ (Ju _ (Ju _ (Ju _ (Ju _ (Ju _ (Ju _ (Ju _ (Ju _ (Ju _ (rfl))))))))))))))) ?_
 refine congrArg some ?_
 show _=(zf m 0&&(zf m 1&&(zf m 2&&(zf m 3&&(zf m 4&&(zf m 5&&(zf m 6&&(zf m 7&&(zf m 8&&(zf m 9&&(zf m 10&&(zf m 11&&(zf m 12&&(zf m 13&&(zf m 14&&true)))))))))))))))
 simp only [zf,Bool.and_true]
 ac_rfl
end Go.Proofs.YtljejgmcgddppaaGreat
end

section
namespace Go.Proofs.YtljejgmcgddppaaGreat
open Go Go.AM
set_option linter.unusedSimpArgs false
set_option linter.unusedVariables false
set_option maxRecDepth 100000
def kf:Nat→List Nat
 | 1 => [0, 1]
 | 2 => [0, 2, 3, 4, 5]
 | 3 => [0, 2]
 | 4 => [0, 2, 6, 5]
 | 5 => [0, 2, 3]
 | 6 => [0, 2, 7]
 | 7 => [0, 2]
 | 8 => [0, 2]
 | 9 => [0, 2]
 | 10 => [0, 2]
 | 11 => [0, 2]
 | 12 => [8, 9]
 | 13 => [8, 10]
 | 14 => [8, 11, 9, 12, 13]
 | 15 => [8]
 | 16 => [8]
 | 17 => [9, 14]
 | _ => []
def fc (l:List Nat):List (List AV):=l.map fun f:Nat=>[I (f:Int)]
theorem s65:∀ n:Nat,1≤n→n≤17→g65 (n:Int)=some (fc (kf n),true)
 | 1, _, _ => by rw [YL]; rfl
 | 2, _, _ => by rw [YL]; rfl
 | 3, _, _ => by rw [YL]; rfl
 | 4, _, _ => by rw [YL]; rfl
 | 5, _, _ => by rw [YL]; rfl
 | 6, _, _ => by rw [YL]; rfl
 | 7, _, _ => by rw [YL]; rfl
 | 8, _, _ => by rw [YL]; rfl
 | 9, _, _ => by rw [YL]; rfl
 | 10, _, _ => by rw [YL]; rfl
 | 11, _, _ => by rw [YL]; rfl
 | 12, _, _ => by rw [YL]; rfl
 | 13, _, _ => by rw [YL]; rfl
 | 14, _, _ => by rw [YL]; rfl
 | 15, _, _ => by rw [YL]; rfl
 | 16, _, _ => by rw [YL]; rfl
 | 17, _, _ => by rw [YL]; rfl
 | n + 18, _, h => absurd h (by omega)
theorem ZAL (k:Int) (h:¬ (1≤k∧k≤17)):g65 k=some (([] : List (List AV)),false):=by
 rw [YL]
 rw [if_neg (show ¬ (cop .eql k 1)=true by simp only [CQ]; omega)]
 rw [if_neg (show ¬ (cop .eql k 2)=true by simp only [CQ]; omega)]
 rw [if_neg (show ¬ (cop .eql k 3)=true by simp only [CQ]; omega)]
 rw [if_neg (show ¬ (cop .eql k 7)=true by simp only [CQ]; omega)]
 rw [if_neg (show ¬ (cop .eql k 8)=true by simp only [CQ]; omega)]
 rw [if_neg (show ¬ (cop .eql k 9)=true by simp only [CQ]; omega)]
 rw [if_neg (show ¬ (cop .eql k 10)=true by simp only [CQ]; omega)]
 rw [if_neg (show ¬ (cop .eql k 11)=true by simp only [CQ]; omega)]
 rw [if_neg (show ¬ (cop .eql k 4)=true by simp only [CQ]; omega)]
 rw [if_neg (show ¬ (cop .eql k 5)=true by simp only [CQ]; omega)]
 rw [if_neg (show ¬ (cop .eql k 6)=true by simp only [CQ]; omega)]
 rw [if_neg (show ¬ (cop .eql k 12)=true by simp only [CQ]; omega)]
 rw [if_neg (show ¬ (cop .eql k 13)=true by simp only [CQ]; omega)]
 rw [if_neg (show ¬ (cop .eql k 14)=true by simp only [CQ]; omega)]
 rw [if_neg (show ¬ (cop .eql k 15)=true by simp only [CQ]; omega)]
 rw [if_neg (show ¬ (cop .eql k 16)=true by simp only [CQ]; omega)]
 rw [if_neg (show ¬ (cop .eql k 17)=true by simp only [CQ]; omega)]
theorem ZwR (n:Nat):∀ f∈kf n,f < 15:=by
 intro f hf
 unfold kf at hf
 split at hf <;> simp at hf <;> omega
theorem ZpW {γ:Type} {l:List Nat} {i:Nat} (h:i < l.length) (k:Int→Option γ):Zl (fc l) (i:Int) [.int .i64] k=k (l[i] : Int):=J4 (f:=fun n:Nat=>[I (n:Int)]) (sh:=[.int .i64]) (v:=fun n:Nat=>(n:Int)) (fun _=>rfl) h k
theorem Zn7 (r:Msg) (f:Nat) (h:r.req.src.path.length < 2 ^ 63):(clr r f).req.src.path.length < 2 ^ 63:=by
 unfold clr
 split <;> first | exact h | (show ([] : List Id).length < 2 ^ 63; simp)
theorem l40 (m:Msg) (h:m.Fits) (L:List Nat) (hL:∀ f∈L,f < 15) (hn:L.length < 2 ^ 63):∀ (j i fuel:Nat) (r:Msg),L.length=i+j→j < fuel→r.req.src.path.length < 2 ^ 63→
  Zpe fuel m.kind m.view m.frm m.to m.round m.region m.slot m.op.core m.op.op m.op.part m.err m.settled m.req.id.core m.req.id.op m.req.id.part m.req.call.kind m.req.call.slot m.req.call.dest m.req.call.core m.req.call.mask m.req.call.object m.req.call.bits m.req.call.level m.req.call.offset m.req.call.count m.req.call.index m.req.call.addr m.req.region m.req.width m.req.src.id.core m.req.src.id.op m.req.src.id.part (Zb m.req.src.path) m.req.src.cap.kind m.req.src.cap.base m.req.src.cap.bits m.req.src.cap.rights m.req.src.cap.width m.req.src.cap.level m.req.src.cap.device (Zb m.ids) (m.nodes.map Js) (Za m.cores) (m.moves.map Jt) m.base m.next.number (Za m.next.members) (Za m.next.owners) (m.state.slots.map Zg) (m.state.pending.map ZM) (m.state.marks.map Zj) (m.state.answers.map ZS) (m.state.entries.map Zd) (Zb m.state.commits) m.report.core m.report.view.number (Za m.report.view.members) (Za m.report.view.owners) (m.report.state.slots.map Zg) (m.report.state.pending.map ZM) (m.report.state.marks.map Zj) (m.report.state.answers.map ZS) (m.report.state.entries.map Zd) (Zb m.report.state.commits) m.report.ready m.report.next.number (Za m.report.next.members) (Za m.report.next.owners) (m.report.proposal.slots.map Zg) (m.report.proposal.pending.map ZM) (m.report.proposal.marks.map Zj) (m.report.proposal.answers.map ZS) (m.report.proposal.entries.map Zd) (Zb m.report.proposal.commits) r.kind r.view r.frm r.to r.round r.region r.slot r.op.core r.op.op r.op.part r.err r.settled r.req.id.core r.req.id.op r.req.id.part r.req.call.kind r.req.call.slot r.req.call.dest r.req.call.core r.req.call.mask r.req.call.object r.req.call.bits r.req.call.level r.req.call.offset r.req.call.count r.req.call.index r.req.call.addr r.req.region r.req.width r.req.src.id.core r.req.src.id.op r.req.src.id.part (Zb r.req.src.path) r.req.src.cap.kind r.req.src.cap.base r.req.src.cap.bits r.req.src.cap.rights r.req.src.cap.width r.req.src.cap.level r.req.src.cap.device (Zb r.ids) (r.nodes.map Js) (Za r.cores) (r.moves.map Jt) r.base r.next.number (Za r.next.members) (Za r.next.owners) (r.state.slots.map Zg) (r.state.pending.map ZM) (r.state.marks.map Zj) (r.state.answers.map ZS) (r.state.entries.map Zd) (Zb r.state.commits) r.report.core r.report.view.number (Za r.report.view.members) (Za r.report.view.owners) (r.report.state.slots.map Zg) (r.report.state.pending.map ZM) (r.report.state.marks.map Zj) (r.report.state.answers.map ZS) (r.report.state.entries.map Zd) (Zb r.report.state.commits) r.report.ready r.report.next.number (Za r.report.next.members) (Za r.report.next.owners) (r.report.proposal.slots.map Zg) (r.report.proposal.pending.map ZM) (r.report.proposal.marks.map Zj) (r.report.proposal.answers.map ZS) (r.report.proposal.entries.map Zd) (Zb r.report.proposal.commits) (fc L) (L.length:Int) (i:Int)=some ((L.drop i).all (Zh m)&&ZwN ((L.drop i).foldl clr r)):=by
 intro j
 induction j with
 | zero =>
  intro i fuel r hij hf hr
  obtain ⟨f,rfl⟩:∃ f,fuel=f+1:=⟨fuel - 1,by omega⟩
  refine (ZjD ..).trans ?_
  rw [if_neg (ZZ (by omega)),s70 r hr,Option.bind_some,List.drop_of_length_le (by omega)]
  rfl
 | succ j ih =>
  intro i fuel r hij hf hr
  obtain ⟨f,rfl⟩:∃ f,fuel=f+1:=⟨fuel - 1,by omega⟩
  have hi:i < L.length:=by omega
  have hlt:=hL _ (List.getElem_mem hi)
  refine (ZjD ..).trans ?_
  rw [if_pos (ZX hi)]
  refine (ZpW hi _).trans ?_
  rw [s68 m h _ hlt,Option.bind_some,List.drop_eq_getElem_cons hi,List.all_cons,List.foldl_cons,ZQ hi hn]
  cases Zh m L[i] with
  | false => rfl
  | true =>
   rw [if_neg (by simp),s69 r _ hlt,Option.bind_some,Bool.true_and]
   exact ih (i+1) f (clr r L[i]) (by omega) (by omega) (Zn7 r _ hr)
def kindOk (k:Int):Bool:=decide (1≤k∧k≤17)
def headOk (m:Msg):Bool:=kindOk m.kind&&Jw m.view&&Zs m.frm&&Zs m.to
def rest (n:Nat) (m:Msg):Bool:=(List.range 15).all (fun g=>(kf n).contains g||zf m g)
def KF (m:Msg):Bool:=headOk m&&((kf m.kind.toNat).all (Zh m)&&rest m.kind.toNat m)
theorem Zqv (m:Msg):∀ n:Nat,1≤n→n≤17→ZwN ((kf n).foldl clr m)=rest n m
 | 1, _, _ => by kernel_rfl
 | 2, _, _ => by kernel_rfl
 | 3, _, _ => by kernel_rfl
 | 4, _, _ => by kernel_rfl
 | 5, _, _ => by kernel_rfl
 | 6, _, _ => by kernel_rfl
 | 7, _, _ => by kernel_rfl
 | 8, _, _ => by kernel_rfl
 | 9, _, _ => by kernel_rfl
 | 10, _, _ => by kernel_rfl
 | 11, _, _ => by kernel_rfl
 | 12, _, _ => by kernel_rfl
 | 13, _, _ => by kernel_rfl
 | 14, _, _ => by kernel_rfl
 | 15, _, _ => by kernel_rfl
 | 16, _, _ => by kernel_rfl
 | 17, _, _ => by kernel_rfl
 | n + 18, _, h => absurd h (by omega)
theorem s40 (m:Msg) (h:m.Fits):g40 m.kind m.view m.frm m.to m.round m.region m.slot m.op.core m.op.op m.op.part m.err m.settled m.req.id.core m.req.id.op m.req.id.part m.req.call.kind m.req.call.slot m.req.call.dest m.req.call.core m.req.call.mask m.req.call.object m.req.call.bits m.req.call.level m.req.call.offset m.req.call.count m.req.call.index m.req.call.addr m.req.region m.req.width m.req.src.id.core m.req.src.id.op m.req.src.id.part (Zb m.req.src.path) m.req.src.cap.kind m.req.src.cap.base m.req.src.cap.bits m.req.src.cap.rights m.req.src.cap.width m.req.src.cap.level m.req.src.cap.device (Zb m.ids) (m.nodes.map Js) (Za m.cores) (m.moves.map Jt) m.base m.next.number (Za m.next.members) (Za m.next.owners) (m.state.slots.map Zg) (m.state.pending.map ZM) (m.state.marks.map Zj) (m.state.answers.map ZS) (m.state.entries.map Zd) (Zb m.state.commits) m.report.core m.report.view.number (Za m.report.view.members) (Za m.report.view.owners) (m.report.state.slots.map Zg) (m.report.state.pending.map ZM) (m.report.state.marks.map Zj) (m.report.state.answers.map ZS) (m.report.state.entries.map Zd) (Zb m.report.state.commits) m.report.ready m.report.next.number (Za m.report.next.members) (Za m.report.next.owners) (m.report.proposal.slots.map Zg) (m.report.proposal.pending.map ZM) (m.report.proposal.marks.map Zj) (m.report.proposal.answers.map ZS) (m.report.proposal.entries.map Zd) (Zb m.report.proposal.commits)=some (KF m):=by
 rw [ZsH]
 unfold KF headOk
 by_cases hk:1≤m.kind∧m.kind≤17
 ·obtain ⟨n,hn⟩:∃ n:Nat,m.kind=n:=⟨m.kind.toNat,by omega⟩
  have h1:kindOk m.kind=true:=decide_eq_true hk
  have e19:g65 m.kind=some (fc (kf n),true):=by rw [hn]; exact s65 n (by omega) (by omega)
  rw [e19,Option.bind_some,s66,s67,s67,Option.bind_some,Option.bind_some,Option.bind_some,h1]
  have hlen:(fc (kf n)).length=(kf n).length:=List.length_map _
  have hsz:(kf n).length < 2 ^ 63:=by
   have:(kf n).length≤5:=by unfold kf; split <;> simp
   omega
  have e:=l40 m h (kf n) (ZwR n) hsz (kf n).length 0 Zx m (by omega) (by have:=JK hsz; omega) h.req
  rw [List.drop_zero,Zqv m n (by omega) (by omega)] at e
  have hk2:m.kind.toNat=n:=by omega
  rw [hk2]
  dsimp only
  rw [hlen]
  refine (if_neg (by simp)).trans ?_
  cases Jw m.view <;> cases Zs m.frm <;> cases Zs m.to <;> first | rfl | exact e
 ·have h1:kindOk m.kind=false:=decide_eq_false hk
  rw [ZAL _ hk,Option.bind_some,h1]
  rfl
end Go.Proofs.YtljejgmcgddppaaGreat
end

section
namespace Go.Proofs.YtljejgmcgddppaaGreat
open Go Go.AM
set_option linter.unusedSimpArgs false
set_option linter.unusedVariables false
set_option maxRecDepth 100000
theorem Zpl (a b:Int):cop .eql a b=decide (a=b):=rfl
def at2 {α:Type} (q:α→α→Bool) (l m:List α) (i:Nat):Bool:=match l[i]?,m[i]? with | some a,some b=>q a b | _,_=>true
def J5 {α:Type} (q:α→α→Bool) (l m:List α):Bool:=decide (l.length=m.length)&&(List.range' 0 l.length).all (at2 q l m)
theorem ZaH {α:Type} (q:α→α→Bool) {l m:List α} {i:Nat} (h:i < l.length) (h':i < m.length):at2 q l m i=q l[i] m[i]:=by
 unfold at2
 rw [List.getElem?_eq_getElem h,List.getElem?_eq_getElem h']
def Zba (a b:Req):Bool:=decide (a.id.core=b.id.core∧a.id.op=b.id.op∧a.id.part=b.id.part)&&decide (a.call.kind=b.call.kind∧a.call.slot=b.call.slot∧a.call.dest=b.call.dest∧a.call.core=b.call.core∧a.call.mask=b.call.mask∧a.call.object=b.call.object∧a.call.bits=b.call.bits∧a.call.level=b.call.level∧a.call.offset=b.call.offset∧a.call.count=b.call.count∧a.call.index=b.call.index∧a.call.addr=b.call.addr)&&decide (a.region=b.region)&&decide (a.width=b.width)&&KM a.src b.src
theorem ZyS (a b:Req) (ha:a.src.path.length < 2 ^ 63) (hb:b.src.path.length < 2 ^ 63):ZvR a.id.core a.id.op a.id.part a.call.kind a.call.slot a.call.dest a.call.core a.call.mask a.call.object a.call.bits a.call.level a.call.offset a.call.count a.call.index a.call.addr a.region a.width a.src.id.core a.src.id.op a.src.id.part (Zb a.src.path) a.src.cap.kind a.src.cap.base a.src.cap.bits a.src.cap.rights a.src.cap.width a.src.cap.level a.src.cap.device b.id.core b.id.op b.id.part b.call.kind b.call.slot b.call.dest b.call.core b.call.mask b.call.object b.call.bits b.call.level b.call.offset b.call.count b.call.index b.call.addr b.region b.width b.src.id.core b.src.id.op b.src.id.part (Zb b.src.path) b.src.cap.kind b.src.cap.base b.src.cap.bits b.src.cap.rights b.src.cap.width b.src.cap.level b.src.cap.device=some (Zba a b):=by
 rw [Zq8,ZsU _ _ ha hb,Option.bind_some]
 unfold Zba
 repeat' split
 all_goals (refine congrArg some ?_; rw [Zi]; simp only [CQ] at * <;> grind)
theorem ZAK (l m:List Y5) (hl:l.length < 2 ^ 63) (pl:∀ x∈l,x.path.length < 2 ^ 63) (pm:∀ x∈m,x.path.length < 2 ^ 63):Zxv (l.map Js) (m.map Js)=some (J5 KM l m):=by
 rw [ZpH,List.length_map,List.length_map]
 unfold J5
 by_cases h:l.length=m.length
 ·rw [if_neg (show ¬ (cop .neq (l.length:Int) (m.length:Int))=true by simp only [CQ]; omega),decide_eq_true h,Bool.true_and]
  have:=ZL (F:=fun k i=>Zgs k (l.map Js) (m.map Js) i) (n:=l.length) (fin:=some true) (bad:=some false) (at2 KM l m) hl 0 (by omega)
   (fun k i _ hi=>by
    have hi':i < m.length:=by omega
    refine (Zgd ..).trans ?_
    rw [List.length_map,if_pos (ZX hi)]
    refine (Yu hi _).trans ?_
    refine (Yu hi' _).trans ?_
    rw [ZQ hi hl,ZaH _ hi hi']
    generalize Zgs k (l.map Js) (m.map Js) ((i+1:Nat):Int)=X
    try simp only [Yu hi,Yu hi',ZfR,d2,d4,d8,d16,ZsU _ _ (pl _ (List.getElem_mem hi)) (pm _ (List.getElem_mem hi')),Option.bind_some]
    skip
    repeat' split
    all_goals (simp only [Zpl,CQ] at * <;> grind))
   (fun k i hi=>by refine (Zgd ..).trans ?_; rw [List.length_map,if_neg (ZZ hi)])
  rw [Nat.sub_zero] at this
  refine Eq.trans this ?_
  cases (List.range' 0 l.length).all (at2 KM l m) <;> rfl
 ·rw [if_pos (show (cop .neq (l.length:Int) (m.length:Int))=true by simp only [CQ]; omega),decide_eq_false h]
  rfl
def Za6:Int→Int→Bool:=fun a b=>decide (a=b)
theorem Zw9 (l m:List Int) (hl:l.length < 2 ^ 63):ZsB (Za l) (Za m)=some (J5 Za6 l m):=by
 rw [Zqe,ZJ,ZJ]
 unfold J5
 by_cases h:l.length=m.length
 ·rw [if_neg (show ¬ (cop .neq (l.length:Int) (m.length:Int))=true by simp only [CQ]; omega),decide_eq_true h,Bool.true_and]
  have:=ZL (F:=fun k i=>Zhj k (Za l) (Za m) i) (n:=l.length) (fin:=some true) (bad:=some false) (at2 Za6 l m) hl 0 (by omega)
   (fun k i _ hi=>by
    have hi':i < m.length:=by omega
    refine (Zg3 ..).trans ?_
    rw [ZJ,if_pos (ZX hi)]
    refine (ZW hi _).trans ?_
    refine (ZW hi' _).trans ?_
    rw [ZQ hi hl,ZaH _ hi hi']
    generalize Zhj k (Za l) (Za m) ((i+1:Nat):Int)=X
    try simp only [ZW hi,ZW hi',d2,d4,d8,d16,Option.bind_some]
    generalize l[i]=a
    generalize m[i]=b
    unfold Za6
    repeat' split
    all_goals (simp only [Zpl,CQ] at * <;> grind))
   (fun k i hi=>by refine (Zg3 ..).trans ?_; rw [ZJ,if_neg (ZZ hi)])
  rw [Nat.sub_zero] at this
  refine Eq.trans this ?_
  cases (List.range' 0 l.length).all (at2 Za6 l m) <;> rfl
 ·rw [if_pos (show (cop .neq (l.length:Int) (m.length:Int))=true by simp only [CQ]; omega),decide_eq_false h]
  rfl
def WD:Zi1→Zi1→Bool:=fun a b=>decide (a.region=b.region∧a.to=b.to)
theorem ZzP (l m:List Zi1) (hl:l.length < 2 ^ 63):Zwq (l.map Jt) (m.map Jt)=some (J5 WD l m):=by
 rw [ZpL,List.length_map,List.length_map]
 unfold J5
 by_cases h:l.length=m.length
 ·rw [if_neg (show ¬ (cop .neq (l.length:Int) (m.length:Int))=true by simp only [CQ]; omega),decide_eq_true h,Bool.true_and]
  have:=ZL (F:=fun k i=>ZgW k (l.map Jt) (m.map Jt) i) (n:=l.length) (fin:=some true) (bad:=some false) (at2 WD l m) hl 0 (by omega)
   (fun k i _ hi=>by
    have hi':i < m.length:=by omega
    refine (ZgE ..).trans ?_
    rw [List.length_map,if_pos (ZX hi)]
    refine (YN hi _).trans ?_
    refine (YN hi' _).trans ?_
    rw [ZQ hi hl,ZaH _ hi hi']
    generalize ZgW k (l.map Jt) (m.map Jt) ((i+1:Nat):Int)=X
    try simp only [YN hi,YN hi',d2,d4,d8,d16,Option.bind_some]
    generalize l[i]=a
    generalize m[i]=b
    unfold WD
    repeat' split
    all_goals (simp only [Zpl,CQ] at * <;> grind))
   (fun k i hi=>by refine (ZgE ..).trans ?_; rw [List.length_map,if_neg (ZZ hi)])
  rw [Nat.sub_zero] at this
  refine Eq.trans this ?_
  cases (List.range' 0 l.length).all (at2 WD l m) <;> rfl
 ·rw [if_pos (show (cop .neq (l.length:Int) (m.length:Int))=true by simp only [CQ]; omega),decide_eq_false h]
  rfl
def ZfE:Jp→Jp→Bool:=fun a b=>decide (a.op=b.op)&&decide (a.lock.core=b.lock.core∧a.lock.op=b.lock.op∧a.lock.part=b.lock.part)&&KM a.node b.node
theorem s22 (l m:List Jp) (hl:l.length < 2 ^ 63) (pl:∀ x∈l,x.node.path.length < 2 ^ 63) (pm:∀ x∈m,x.node.path.length < 2 ^ 63):g22 (l.map Zg) (m.map Zg)=some (J5 ZfE l m):=by
 rw [Zvh,List.length_map,List.length_map]
 unfold J5
 by_cases h:l.length=m.length
 ·rw [if_neg (show ¬ (cop .neq (l.length:Int) (m.length:Int))=true by simp only [CQ]; omega),decide_eq_true h,Bool.true_and]
  have:=ZL (F:=fun k i=>ZlW k (l.map Zg) (m.map Zg) i) (n:=l.length) (fin:=some true) (bad:=some false) (at2 ZfE l m) hl 0 (by omega)
   (fun k i _ hi=>by
    have hi':i < m.length:=by omega
    refine (Zjx ..).trans ?_
    rw [List.length_map,if_pos (ZX hi)]
    refine (ZN hi _).trans ?_
    refine (ZN hi' _).trans ?_
    rw [ZQ hi hl,ZaH _ hi hi']
    generalize ZlW k (l.map Zg) (m.map Zg) ((i+1:Nat):Int)=X
    try simp only [ZN hi,ZN hi',Yd,d2,d4,d8,d16,ZsU _ _ (pl _ (List.getElem_mem hi)) (pm _ (List.getElem_mem hi')),Option.bind_some]
    generalize l[i]=a
    generalize m[i]=b
    unfold ZfE
    repeat' split
    all_goals (simp only [Zpl,CQ] at * <;> grind))
   (fun k i hi=>by refine (Zjx ..).trans ?_; rw [List.length_map,if_neg (ZZ hi)])
  rw [Nat.sub_zero] at this
  refine Eq.trans this ?_
  cases (List.range' 0 l.length).all (at2 ZfE l m) <;> rfl
 ·rw [if_pos (show (cop .neq (l.length:Int) (m.length:Int))=true by simp only [CQ]; omega),decide_eq_false h]
  rfl
theorem ZAc (l m:List Req) (hl:l.length < 2 ^ 63) (pl:∀ x∈l,x.src.path.length < 2 ^ 63) (pm:∀ x∈m,x.src.path.length < 2 ^ 63):ZyL (l.map ZM) (m.map ZM)=some (J5 Zba l m):=by
 rw [Zra,List.length_map,List.length_map]
 unfold J5
 by_cases h:l.length=m.length
 ·rw [if_neg (show ¬ (cop .neq (l.length:Int) (m.length:Int))=true by simp only [CQ]; omega),decide_eq_true h,Bool.true_and]
  have:=ZL (F:=fun k i=>Zhq k (l.map ZM) (m.map ZM) i) (n:=l.length) (fin:=some true) (bad:=some false) (at2 Zba l m) hl 0 (by omega)
   (fun k i _ hi=>by
    have hi':i < m.length:=by omega
    refine (Zhr ..).trans ?_
    rw [List.length_map,if_pos (ZX hi)]
    refine (J9 hi _).trans ?_
    refine (J9 hi' _).trans ?_
    rw [ZQ hi hl,ZaH _ hi hi']
    generalize Zhq k (l.map ZM) (m.map ZM) ((i+1:Nat):Int)=X
    try simp only [J9 hi,J9 hi',Zq0,d2,d4,d8,d16,ZyS _ _ (pl _ (List.getElem_mem hi)) (pm _ (List.getElem_mem hi')),Option.bind_some]
    skip
    repeat' split
    all_goals (simp only [Zpl,CQ] at * <;> grind))
   (fun k i hi=>by refine (Zhr ..).trans ?_; rw [List.length_map,if_neg (ZZ hi)])
  rw [Nat.sub_zero] at this
  refine Eq.trans this ?_
  cases (List.range' 0 l.length).all (at2 Zba l m) <;> rfl
 ·rw [if_pos (show (cop .neq (l.length:Int) (m.length:Int))=true by simp only [CQ]; omega),decide_eq_false h]
  rfl
def Za4:YD→YD→Bool:=fun a b=>decide (a.region=b.region∧a.op.core=b.op.core∧a.op.op=b.op.op∧a.op.part=b.op.part)
theorem s36 (l m:List YD) (hl:l.length < 2 ^ 63):g36 (l.map Zj) (m.map Zj)=some (J5 Za4 l m):=by
 rw [Ztw,List.length_map,List.length_map]
 unfold J5
 by_cases h:l.length=m.length
 ·rw [if_neg (show ¬ (cop .neq (l.length:Int) (m.length:Int))=true by simp only [CQ]; omega),decide_eq_true h,Bool.true_and]
  have:=ZL (F:=fun k i=>ZlY k (l.map Zj) (m.map Zj) i) (n:=l.length) (fin:=some true) (bad:=some false) (at2 Za4 l m) hl 0 (by omega)
   (fun k i _ hi=>by
    have hi':i < m.length:=by omega
    refine (Zkg ..).trans ?_
    rw [List.length_map,if_pos (ZX hi)]
    refine (Jc hi _).trans ?_
    refine (Jc hi' _).trans ?_
    rw [ZQ hi hl,ZaH _ hi hi']
    generalize ZlY k (l.map Zj) (m.map Zj) ((i+1:Nat):Int)=X
    try simp only [Jc hi,Jc hi',d2,d4,d8,d16,Option.bind_some]
    generalize l[i]=a
    generalize m[i]=b
    unfold Za4
    repeat' split
    all_goals (simp only [Zpl,CQ] at * <;> grind))
   (fun k i hi=>by refine (Zkg ..).trans ?_; rw [List.length_map,if_neg (ZZ hi)])
  rw [Nat.sub_zero] at this
  refine Eq.trans this ?_
  cases (List.range' 0 l.length).all (at2 Za4 l m) <;> rfl
 ·rw [if_pos (show (cop .neq (l.length:Int) (m.length:Int))=true by simp only [CQ]; omega),decide_eq_false h]
  rfl
def Zil:Ans→Ans→Bool:=fun a b=>decide (a.op=b.op∧a.err=b.err)
theorem ZzR (l m:List Ans) (hl:l.length < 2 ^ 63):Zxk (l.map ZS) (m.map ZS)=some (J5 Zil l m):=by
 rw [ZpZ,List.length_map,List.length_map]
 unfold J5
 by_cases h:l.length=m.length
 ·rw [if_neg (show ¬ (cop .neq (l.length:Int) (m.length:Int))=true by simp only [CQ]; omega),decide_eq_true h,Bool.true_and]
  have:=ZL (F:=fun k i=>Zg0 k (l.map ZS) (m.map ZS) i) (n:=l.length) (fin:=some true) (bad:=some false) (at2 Zil l m) hl 0 (by omega)
   (fun k i _ hi=>by
    have hi':i < m.length:=by omega
    refine (Zgn ..).trans ?_
    rw [List.length_map,if_pos (ZX hi)]
    refine (Yk hi _).trans ?_
    refine (Yk hi' _).trans ?_
    rw [ZQ hi hl,ZaH _ hi hi']
    generalize Zg0 k (l.map ZS) (m.map ZS) ((i+1:Nat):Int)=X
    try simp only [Yk hi,Yk hi',d2,d4,d8,d16,Option.bind_some]
    generalize l[i]=a
    generalize m[i]=b
    unfold Zil
    repeat' split
    all_goals (simp only [Zpl,CQ] at * <;> grind))
   (fun k i hi=>by refine (Zgn ..).trans ?_; rw [List.length_map,if_neg (ZZ hi)])
  rw [Nat.sub_zero] at this
  refine Eq.trans this ?_
  cases (List.range' 0 l.length).all (at2 Zil l m) <;> rfl
 ·rw [if_pos (show (cop .neq (l.length:Int) (m.length:Int))=true by simp only [CQ]; omega),decide_eq_false h]
  rfl
def Zh6:ZG→ZG→Bool:=fun a b=>decide (a.core=b.core)&&decide (a.slot=b.slot)&&KM a.node b.node
theorem ZAO (l m:List ZG) (hl:l.length < 2 ^ 63) (pl:∀ x∈l,x.node.path.length < 2 ^ 63) (pm:∀ x∈m,x.node.path.length < 2 ^ 63):ZwQ (l.map Zd) (m.map Zd)=some (J5 Zh6 l m):=by
 rw [Zqt,List.length_map,List.length_map]
 unfold J5
 by_cases h:l.length=m.length
 ·rw [if_neg (show ¬ (cop .neq (l.length:Int) (m.length:Int))=true by simp only [CQ]; omega),decide_eq_true h,Bool.true_and]
  have:=ZL (F:=fun k i=>Zht k (l.map Zd) (m.map Zd) i) (n:=l.length) (fin:=some true) (bad:=some false) (at2 Zh6 l m) hl 0 (by omega)
   (fun k i _ hi=>by
    have hi':i < m.length:=by omega
    refine (Zgx ..).trans ?_
    rw [List.length_map,if_pos (ZX hi)]
    refine (Zt hi _).trans ?_
    refine (Zt hi' _).trans ?_
    rw [ZQ hi hl,ZaH _ hi hi']
    generalize Zht k (l.map Zd) (m.map Zd) ((i+1:Nat):Int)=X
    try simp only [Zt hi,Zt hi',Yb,d2,d4,d8,d16,ZsU _ _ (pl _ (List.getElem_mem hi)) (pm _ (List.getElem_mem hi')),Option.bind_some]
    generalize l[i]=a
    generalize m[i]=b
    unfold Zh6
    repeat' split
    all_goals (simp only [Zpl,CQ] at * <;> grind))
   (fun k i hi=>by refine (Zgx ..).trans ?_; rw [List.length_map,if_neg (ZZ hi)])
  rw [Nat.sub_zero] at this
  refine Eq.trans this ?_
  cases (List.range' 0 l.length).all (at2 Zh6 l m) <;> rfl
 ·rw [if_pos (show (cop .neq (l.length:Int) (m.length:Int))=true by simp only [CQ]; omega),decide_eq_false h]
  rfl
def ZdX (a b:View):Bool:=cop .eql a.number b.number&&(J5 Za6 a.members b.members&&J5 Za6 a.owners b.owners)
def WF (a b:State):Bool:=J5 ZfE a.slots b.slots&&(J5 Zba a.pending b.pending&&(J5 Za4 a.marks b.marks&&(J5 Zil a.answers b.answers&&(J5 Zh6 a.entries b.entries&&decide (a.commits=b.commits)))))
def Wa (a b:Report):Bool:=cop .eql a.core b.core&&(ZdX a.view b.view&&(WF a.state b.state&&((a.ready == b.ready)&&(ZdX a.next b.next&&WF a.proposal b.proposal))))
theorem Zxo (a b:View) (h:a.Fits):Ztr a.number (Za a.members) (Za a.owners) b.number (Za b.members) (Za b.owners)=some (ZdX a b):=by
 rw [Zrb,Zw9 _ _ h.members,Zw9 _ _ h.owners]
 exact Ju _ (Ju _ rfl)
theorem ZwY (a b:State) (h:a.Fits) (h':b.Fits):Ztv (a.slots.map Zg) (a.pending.map ZM) (a.marks.map Zj) (a.answers.map ZS) (a.entries.map Zd) (Zb a.commits) (b.slots.map Zg) (b.pending.map ZM) (b.marks.map Zj) (b.answers.map ZS) (b.entries.map Zd) (Zb b.commits)=some (WF a b):=by
 rw [Zq6,s22 _ _ h.slots h.slot h'.slot,ZAc _ _ h.pending h.req h'.req,s36 _ _ h.marks,ZzR _ _ h.answers,ZAO _ _ h.entries h.entry h'.entry,s46 _ _ h.commits h'.commits]
 exact Ju _ (Ju _ (Ju _ (Ju _ (Ju _ rfl))))
theorem ZAJ (a b:Report) (h:a.Fits) (h':b.Fits):Zyw a.core a.view.number (Za a.view.members) (Za a.view.owners) (a.state.slots.map Zg) (a.state.pending.map ZM) (a.state.marks.map Zj) (a.state.answers.map ZS) (a.state.entries.map Zd) (Zb a.state.commits) a.ready a.next.number (Za a.next.members) (Za a.next.owners) (a.proposal.slots.map Zg) (a.proposal.pending.map ZM) (a.proposal.marks.map Zj) (a.proposal.answers.map ZS) (a.proposal.entries.map Zd) (Zb a.proposal.commits) b.core b.view.number (Za b.view.members) (Za b.view.owners) (b.state.slots.map Zg) (b.state.pending.map ZM) (b.state.marks.map Zj) (b.state.answers.map ZS) (b.state.entries.map Zd) (Zb b.state.commits) b.ready b.next.number (Za b.next.members) (Za b.next.owners) (b.proposal.slots.map Zg) (b.proposal.pending.map ZM) (b.proposal.marks.map Zj) (b.proposal.answers.map ZS) (b.proposal.entries.map Zd) (Zb b.proposal.commits)=some (Wa a b):=by
 rw [Zrq,Zxo _ _ h.view,ZwY _ _ h.state h'.state,Zxo _ _ h.next,ZwY _ _ h.proposal h'.proposal]
 exact Ju _ (Ju _ (Ju _ (Ju _ (Ju _ rfl))))
theorem nif (c:Bool) {y:Bool} {x:Option Bool} (h:x=some y):(if c=true then some false else x)=some (!c&&y):=by cases c <;> simp [h]
def ZkU (a b:Msg):Bool:=!cop .neq a.kind b.kind&&(!cop .neq a.view b.view&&(!cop .neq a.frm b.frm&&(!cop .neq a.to b.to&&(!cop .neq a.round b.round&&(!cop .neq a.region b.region&&(!cop .neq a.slot b.slot&&(!(!((cop .eql a.op.core b.op.core)&&((cop .eql a.op.op b.op.op)&&((cop .eql a.op.part b.op.part)&&true))))&&(!cop .neq a.err b.err&&(!(!(a.settled == b.settled))&&(!cop .neq a.base b.base&&(Zba a.req b.req&&(decide (a.ids=b.ids)&&(J5 KM a.nodes b.nodes&&(J5 Za6 a.cores b.cores&&(J5 WD a.moves b.moves&&(ZdX a.next b.next&&(WF a.state b.state&&Wa a.report b.report)))))))))))))))))
theorem s62 (a b:Msg) (h:a.Fits) (h':b.Fits):g62 a.kind a.view a.frm a.to a.round a.region a.slot a.op.core a.op.op a.op.part a.err a.settled a.req.id.core a.req.id.op a.req.id.part a.req.call.kind a.req.call.slot a.req.call.dest a.req.call.core a.req.call.mask a.req.call.object a.req.call.bits a.req.call.level a.req.call.offset a.req.call.count a.req.call.index a.req.call.addr a.req.region a.req.width a.req.src.id.core a.req.src.id.op a.req.src.id.part (Zb a.req.src.path) a.req.src.cap.kind a.req.src.cap.base a.req.src.cap.bits a.req.src.cap.rights a.req.src.cap.width a.req.src.cap.level a.req.src.cap.device (Zb a.ids) (a.nodes.map Js) (Za a.cores) (a.moves.map Jt) a.base a.next.number (Za a.next.members) (Za a.next.owners) (a.state.slots.map Zg) (a.state.pending.map ZM) (a.state.marks.map Zj) (a.state.answers.map ZS) (a.state.entries.map Zd) (Zb a.state.commits) a.report.core a.report.view.number (Za a.report.view.members) (Za a.report.view.owners) (a.report.state.slots.map Zg) (a.report.state.pending.map ZM) (a.report.state.marks.map Zj) (a.report.state.answers.map ZS) (a.report.state.entries.map Zd) (Zb a.report.state.commits) a.report.ready a.report.next.number (Za a.report.next.members) (Za a.report.next.owners) (a.report.proposal.slots.map Zg) (a.report.proposal.pending.map ZM) (a.report.proposal.marks.map Zj) (a.report.proposal.answers.map ZS) (a.report.proposal.entries.map Zd) (Zb a.report.proposal.commits) b.kind b.view b.frm b.to b.round b.region b.slot b.op.core b.op.op b.op.part b.err b.settled b.req.id.core b.req.id.op b.req.id.part b.req.call.kind b.req.call.slot b.req.call.dest b.req.call.core b.req.call.mask b.req.call.object b.req.call.bits b.req.call.level b.req.call.offset b.req.call.count b.req.call.index b.req.call.addr b.req.region b.req.width b.req.src.id.core b.req.src.id.op b.req.src.id.part (Zb b.req.src.path) b.req.src.cap.kind b.req.src.cap.base b.req.src.cap.bits b.req.src.cap.rights b.req.src.cap.width b.req.src.cap.level b.req.src.cap.device (Zb b.ids) (b.nodes.map Js) (Za b.cores) (b.moves.map Jt) b.base b.next.number (Za b.next.members) (Za b.next.owners) (b.state.slots.map Zg) (b.state.pending.map ZM) (b.state.marks.map Zj) (b.state.answers.map ZS) (b.state.entries.map Zd) (Zb b.state.commits) b.report.core b.report.view.number (Za b.report.view.members) (Za b.report.view.owners) (b.report.state.slots.map Zg) (b.report.state.pending.map ZM) (b.report.state.marks.map Zj) (b.report.state.answers.map ZS) (b.report.state.entries.map Zd) (Zb b.report.state.commits) b.report.ready b.report.next.number (Za b.report.next.members) (Za b.report.next.owners) (b.report.proposal.slots.map Zg) (b.report.proposal.pending.map ZM) (b.report.proposal.marks.map Zj) (b.report.proposal.answers.map ZS) (b.report.proposal.entries.map Zd) (Zb b.report.proposal.commits)=some (ZkU a b):=by
 rw [ZtA,ZyS _ _ h.req h'.req,s46 _ _ h.ids h'.ids,ZAK _ _ h.nodes h.node h'.node,Zw9 _ _ h.cores,ZzP _ _ h.moves,Zxo _ _ h.next,ZwY _ _ h.state h'.state,ZAJ _ _ h.report h'.report]
 exact nif _ (nif _ (nif _ (nif _ (nif _ (nif _ (nif _ (nif _ (nif _ (nif _ (nif _ (Ju _ (Ju _ (Ju _ (Ju _ (Ju _ (Ju _ (Ju _ (rfl))))))))))))))))))
theorem Jm {α:Type} (q:α→α→Bool) (hq:∀ a,q a a=true) (l:List α):J5 q l l=true:=by
 unfold J5
 rw [decide_eq_true rfl,Bool.true_and,List.all_eq_true]
 intro i hi
 have hi':i < l.length:=by simpa [List.mem_range'] using hi
 rw [ZaH q hi' hi',hq]
theorem Yl {α:Type} (q:α→α→Bool) (l:List α):J5 q l []=decide (l.length=0):=by
 unfold J5
 cases l with
 | nil => rfl
 | cons a r => simp
theorem KB (a:Y5):KM a a=true:=by simp [KM]
theorem Zbp (a:Req):Zba a a=true:=by simp [Zba,KB]
theorem Zk5 (a:Req):Zba a Z7=Zr5 a:=by
 have:decide (a.id.core=Z7.id.core∧a.id.op=Z7.id.op∧a.id.part=Z7.id.part)=decide (a.id=zid):=by
  rw [Zi,decide_eq_true_eq,decide_eq_true_eq]
  constructor
  ·rintro ⟨h1,h2,h3⟩
   rcases h:a.id with ⟨x,y,z⟩
   rw [h] at h1 h2 h3
   simp only [Z7,zid] at h1 h2 h3
   subst h1 h2 h3
   rfl
  ·intro h; rw [h]; exact ⟨rfl,rfl,rfl⟩
 unfold Zba Zr5
 rw [this]
 rfl
theorem Zbv (a:View):ZdX a a=true:=by
 simp [ZdX,Jm Za6 (fun a=>by simp [Za6]),cop]
theorem Zbr (a:View):ZdX a ZD=Zd6 a:=by
 unfold ZdX Zd6
 rw [show ZD.members = [] from rfl,show ZD.owners = [] from rfl,Yl,Yl,Bool.and_assoc]
 rfl
theorem WW (a:State):WF a a=true:=by
 simp [WF,Jm ZfE (fun a=>by simp [ZfE,KB]),Jm Zba Zbp,Jm Za4 (fun a=>by simp [Za4]),Jm Zil (fun a=>by simp [Zil]),Jm Zh6 (fun a=>by simp [Zh6,KB])]
theorem WV (a:State):WF a Zk=Zaf a:=by
 have:decide (a.commits=([] : List Id))=decide (a.commits.length=0):=by
  rw [Zi,decide_eq_true_eq,decide_eq_true_eq,List.length_eq_zero_iff]
 unfold WF Zaf
 rw [show Zk.slots = [] from rfl,show Zk.pending = [] from rfl,show Zk.marks = [] from rfl,show Zk.answers = [] from rfl,show Zk.entries = [] from rfl,show Zk.commits = [] from rfl,Yl,Yl,Yl,Yl,Yl,this]
 simp only [Bool.and_assoc]
theorem ZbL (a:Report):Wa a a=true:=by simp [Wa,Zbv,WW,cop]
theorem Zgy (a:Report):Wa a Zm=Zbw a:=by
 unfold Wa Zbw
 rw [show Zm.view=ZD from rfl,show Zm.next=ZD from rfl,show Zm.state=Zk from rfl,show Zm.proposal=Zk from rfl,Zbr,Zbr,WV,WV]
 have e:(a.ready == Zm.ready) = !a.ready:=by cases a.ready <;> rfl
 rw [e]
 simp only [Bool.and_assoc]
 rfl
theorem ZkX (a:Msg):ZkU a a=true:=by
 simp [ZkU,Zbp,Jm KM KB,Jm Za6 (fun a=>by simp [Za6]),Jm WD (fun a=>by simp [WD]),Zbv,WW,ZbL,cop]
end Go.Proofs.YtljejgmcgddppaaGreat
end

section
namespace Go.Proofs.YtljejgmcgddppaaGreat
open Go Go.AM
set_option linter.unusedSimpArgs false
set_option linter.unusedVariables false
set_option maxRecDepth 100000
theorem l56 (m x:Msg) (h:m.Fits) (hx:x.Fits):∀ (j i fuel:Nat) (ok:Bool),m.nodes.length=i+j→j < fuel→
  Yt fuel m.kind m.view m.frm m.to m.round m.region m.slot m.op.core m.op.op m.op.part m.err m.settled m.req.id.core m.req.id.op m.req.id.part m.req.call.kind m.req.call.slot m.req.call.dest m.req.call.core m.req.call.mask m.req.call.object m.req.call.bits m.req.call.level m.req.call.offset m.req.call.count m.req.call.index m.req.call.addr m.req.region m.req.width m.req.src.id.core m.req.src.id.op m.req.src.id.part (Zb m.req.src.path) m.req.src.cap.kind m.req.src.cap.base m.req.src.cap.bits m.req.src.cap.rights m.req.src.cap.width m.req.src.cap.level m.req.src.cap.device (Zb m.ids) (m.nodes.map Js) (Za m.cores) (m.moves.map Jt) m.base m.next.number (Za m.next.members) (Za m.next.owners) (m.state.slots.map Zg) (m.state.pending.map ZM) (m.state.marks.map Zj) (m.state.answers.map ZS) (m.state.entries.map Zd) (Zb m.state.commits) m.report.core m.report.view.number (Za m.report.view.members) (Za m.report.view.owners) (m.report.state.slots.map Zg) (m.report.state.pending.map ZM) (m.report.state.marks.map Zj) (m.report.state.answers.map ZS) (m.report.state.entries.map Zd) (Zb m.report.state.commits) m.report.ready m.report.next.number (Za m.report.next.members) (Za m.report.next.owners) (m.report.proposal.slots.map Zg) (m.report.proposal.pending.map ZM) (m.report.proposal.marks.map Zj) (m.report.proposal.answers.map ZS) (m.report.proposal.entries.map Zd) (Zb m.report.proposal.commits) x.kind x.view x.frm x.to x.round x.region x.slot x.op.core x.op.op x.op.part x.err x.settled x.req.id.core x.req.id.op x.req.id.part x.req.call.kind x.req.call.slot x.req.call.dest x.req.call.core x.req.call.mask x.req.call.object x.req.call.bits x.req.call.level x.req.call.offset x.req.call.count x.req.call.index x.req.call.addr x.req.region x.req.width x.req.src.id.core x.req.src.id.op x.req.src.id.part (Zb x.req.src.path) x.req.src.cap.kind x.req.src.cap.base x.req.src.cap.bits x.req.src.cap.rights x.req.src.cap.width x.req.src.cap.level x.req.src.cap.device (Zb x.ids) (x.nodes.map Js) (Za x.cores) (x.moves.map Jt) x.base x.next.number (Za x.next.members) (Za x.next.owners) (x.state.slots.map Zg) (x.state.pending.map ZM) (x.state.marks.map Zj) (x.state.answers.map ZS) (x.state.entries.map Zd) (Zb x.state.commits) x.report.core x.report.view.number (Za x.report.view.members) (Za x.report.view.owners) (x.report.state.slots.map Zg) (x.report.state.pending.map ZM) (x.report.state.marks.map Zj) (x.report.state.answers.map ZS) (x.report.state.entries.map Zd) (Zb x.report.state.commits) x.report.ready x.report.next.number (Za x.report.next.members) (Za x.report.next.owners) (x.report.proposal.slots.map Zg) (x.report.proposal.pending.map ZM) (x.report.proposal.marks.map Zj) (x.report.proposal.answers.map ZS) (x.report.proposal.entries.map Zd) (Zb x.report.proposal.commits) ok (i:Int)=some (ok&&((m.nodes.drop i).all ZF&&(Z2 m.region&&ZkU m x))):=by
 intro j
 induction j with
 | zero =>
  intro i fuel ok hij hf
  obtain ⟨f,rfl⟩:∃ f,fuel=f+1:=⟨fuel - 1,by omega⟩
  refine (Zki ..).trans ?_
  rw [List.length_map,if_neg (ZZ (by omega)),List.drop_of_length_le (by omega)]
  cases ok with
  | false => rfl
  | true =>
   rw [if_pos rfl,ZtT,Option.bind_some,s62 m x h hx,Option.bind_some]
   cases Z2 m.region <;> rfl
 | succ j ih =>
  intro i fuel ok hij hf
  obtain ⟨f,rfl⟩:∃ f,fuel=f+1:=⟨fuel - 1,by omega⟩
  have hi:i < m.nodes.length:=by omega
  refine (Zki ..).trans ?_
  rw [List.length_map,if_pos (ZX hi)]
  cases ok with
  | false => rfl
  | true =>
   rw [if_pos rfl]
   refine (Yu hi _).trans ?_
   simp only [ZfR,d2,d4,d8,d16]
   rw [s87 _ (h.node _ (List.getElem_mem hi)),Option.bind_some,ZQ hi h.nodes,ih (i+1) f _ (by omega) (by omega),List.drop_eq_getElem_cons hi,List.all_cons]
   cases ZF m.nodes[i] <;> rfl
theorem kne {a b:Int} (h:a≠b):¬ (cop .eql a b=true):=by simp only [CQ]; exact h
theorem keq {a b:Int} (h:a=b):cop .eql a b=true:=by simp only [CQ]; exact h
@[reducible] noncomputable def G10 (m:Msg):=g56 m.kind m.view m.frm m.to m.round m.region m.slot m.op.core m.op.op m.op.part m.err m.settled m.req.id.core m.req.id.op m.req.id.part m.req.call.kind m.req.call.slot m.req.call.dest m.req.call.core m.req.call.mask m.req.call.object m.req.call.bits m.req.call.level m.req.call.offset m.req.call.count m.req.call.index m.req.call.addr m.req.region m.req.width m.req.src.id.core m.req.src.id.op m.req.src.id.part (Zb m.req.src.path) m.req.src.cap.kind m.req.src.cap.base m.req.src.cap.bits m.req.src.cap.rights m.req.src.cap.width m.req.src.cap.level m.req.src.cap.device (Zb m.ids) (m.nodes.map Js) (Za m.cores) (m.moves.map Jt) m.base m.next.number (Za m.next.members) (Za m.next.owners) (m.state.slots.map Zg) (m.state.pending.map ZM) (m.state.marks.map Zj) (m.state.answers.map ZS) (m.state.entries.map Zd) (Zb m.state.commits) m.report.core m.report.view.number (Za m.report.view.members) (Za m.report.view.owners) (m.report.state.slots.map Zg) (m.report.state.pending.map ZM) (m.report.state.marks.map Zj) (m.report.state.answers.map ZS) (m.report.state.entries.map Zd) (Zb m.report.state.commits) m.report.ready m.report.next.number (Za m.report.next.members) (Za m.report.next.owners) (m.report.proposal.slots.map Zg) (m.report.proposal.pending.map ZM) (m.report.proposal.marks.map Zj) (m.report.proposal.answers.map ZS) (m.report.proposal.entries.map Zd) (Zb m.report.proposal.commits)
@[reducible] noncomputable def G10L (m:Msg):=Yt Zx m.kind m.view m.frm m.to m.round m.region m.slot m.op.core m.op.op m.op.part m.err m.settled m.req.id.core m.req.id.op m.req.id.part m.req.call.kind m.req.call.slot m.req.call.dest m.req.call.core m.req.call.mask m.req.call.object m.req.call.bits m.req.call.level m.req.call.offset m.req.call.count m.req.call.index m.req.call.addr m.req.region m.req.width m.req.src.id.core m.req.src.id.op m.req.src.id.part (Zb m.req.src.path) m.req.src.cap.kind m.req.src.cap.base m.req.src.cap.bits m.req.src.cap.rights m.req.src.cap.width m.req.src.cap.level m.req.src.cap.device (Zb m.ids) (m.nodes.map Js) (Za m.cores) (m.moves.map Jt) m.base m.next.number (Za m.next.members) (Za m.next.owners) (m.state.slots.map Zg) (m.state.pending.map ZM) (m.state.marks.map Zj) (m.state.answers.map ZS) (m.state.entries.map Zd) (Zb m.state.commits) m.report.core m.report.view.number (Za m.report.view.members) (Za m.report.view.owners) (m.report.state.slots.map Zg) (m.report.state.pending.map ZM) (m.report.state.marks.map Zj) (m.report.state.answers.map ZS) (m.report.state.entries.map Zd) (Zb m.report.state.commits) m.report.ready m.report.next.number (Za m.report.next.members) (Za m.report.next.owners) (m.report.proposal.slots.map Zg) (m.report.proposal.pending.map ZM) (m.report.proposal.marks.map Zj) (m.report.proposal.answers.map ZS) (m.report.proposal.entries.map Zd) (Zb m.report.proposal.commits)
def sel (b:Nat→Bool) (m:Msg):Msg:=⟨m.kind,m.view,m.frm,m.to,if b 8=true then m.round else 0,if b 0=true then m.region else 0,if b 6=true then m.slot else 0,if b 2=true then m.op else zid,if b 3=true then m.err else 0,if b 4=true then m.settled else false,if b 1=true then m.req else Z7,if b 7=true then m.ids else [],if b 5=true then m.nodes else [],if b 9=true then m.cores else [],if b 14=true then m.moves else [],if b 11=true then m.base else 0,if b 12=true then m.next else ZD,if b 13=true then m.state else Zk,if b 10=true then m.report else Zm⟩
theorem JF (b:Nat→Bool) {m:Msg} (h:m.Fits):(sel b m).Fits:=by
 refine ⟨?_,?_,?_,?_,?_,?_,?_,?_,?_⟩
 ·show (if b 1=true then m.req else Z7).src.path.length < 2 ^ 63
  cases b 1 <;> first | exact h.req | (show ([] : List Id).length < 2 ^ 63; simp)
 ·show (if b 7=true then m.ids else []).length < 2 ^ 63
  cases b 7 <;> first | exact h.ids | (show ([] : List Id).length < 2 ^ 63; simp)
 ·show (if b 5=true then m.nodes else []).length < 2 ^ 63
  cases b 5 <;> first | exact h.nodes | (show ([] : List Y5).length < 2 ^ 63; simp)
 ·show ∀ x∈(if b 5=true then m.nodes else []),x.path.length < 2 ^ 63
  cases b 5 <;> first | exact h.node | (intro x hx; cases hx)
 ·show (if b 9=true then m.cores else []).length < 2 ^ 63
  cases b 9 <;> first | exact h.cores | (show ([] : List Int).length < 2 ^ 63; simp)
 ·show (if b 14=true then m.moves else []).length < 2 ^ 63
  cases b 14 <;> first | exact h.moves | (show ([] : List Zi1).length < 2 ^ 63; simp)
 ·show (if b 12=true then m.next else ZD).Fits
  cases b 12 <;> first | exact h.next | exact ⟨by simp [ZD],by simp [ZD]⟩
 ·show (if b 13=true then m.state else Zk).Fits
  cases b 13 <;> first | exact h.state | exact ⟨by simp [Zk],by simp [Zk],by simp [Zk],by simp [Zk],by simp [Zk],by simp [Zk],by simp [Zk],by simp [Zk],by simp [Zk]⟩
 ·show (if b 10=true then m.report else Zm).Fits
  cases b 10 <;> first | exact h.report | exact ⟨⟨by simp [Zm,ZD],by simp [Zm,ZD]⟩,⟨by simp [Zm,Zk],by simp [Zm,Zk],by simp [Zm,Zk],by simp [Zm,Zk],by simp [Zm,Zk],by simp [Zm,Zk],by simp [Zm,Zk],by simp [Zm,Zk],by simp [Zm,Zk]⟩,⟨by simp [Zm,ZD],by simp [Zm,ZD]⟩,⟨by simp [Zm,Zk],by simp [Zm,Zk],by simp [Zm,Zk],by simp [Zm,Zk],by simp [Zm,Zk],by simp [Zm,Zk],by simp [Zm,Zk],by simp [Zm,Zk],by simp [Zm,Zk]⟩⟩
theorem JC (b:Nat→Bool) (m:Msg):ZkU m (sel b m)=(List.range 15).all (fun g=>b g||zf m g):=by
 have k0:(!cop .neq m.kind (sel b m).kind)=true:=by simp [sel,cop]
 have k1:(!cop .neq m.view (sel b m).view)=true:=by simp [sel,cop]
 have k2:(!cop .neq m.frm (sel b m).frm)=true:=by simp [sel,cop]
 have k3:(!cop .neq m.to (sel b m).to)=true:=by simp [sel,cop]
 have e8:(!cop .neq m.round (sel b m).round)=(b 8||zf m 8):=by
  show (!cop .neq m.round (if b 8=true then m.round else 0))=(b 8||decide (m.round=0))
  cases b 8 with
  | true => simp [cop]
  | false => rw [Zi]; simp [cop]
 have e0:(!cop .neq m.region (sel b m).region)=(b 0||zf m 0):=by
  show (!cop .neq m.region (if b 0=true then m.region else 0))=(b 0||decide (m.region=0))
  cases b 0 with
  | true => simp [cop]
  | false => rw [Zi]; simp [cop]
 have e6:(!cop .neq m.slot (sel b m).slot)=(b 6||zf m 6):=by
  show (!cop .neq m.slot (if b 6=true then m.slot else 0))=(b 6||decide (m.slot=0))
  cases b 6 with
  | true => simp [cop]
  | false => rw [Zi]; simp [cop]
 have e3:(!cop .neq m.err (sel b m).err)=(b 3||zf m 3):=by
  show (!cop .neq m.err (if b 3=true then m.err else 0))=(b 3||decide (m.err=0))
  cases b 3 with
  | true => simp [cop]
  | false => rw [Zi]; simp [cop]
 have e11:(!cop .neq m.base (sel b m).base)=(b 11||zf m 11):=by
  show (!cop .neq m.base (if b 11=true then m.base else 0))=(b 11||decide (m.base=0))
  cases b 11 with
  | true => simp [cop]
  | false => rw [Zi]; simp [cop]
 have e2:(!(!((cop .eql m.op.core (sel b m).op.core)&&((cop .eql m.op.op (sel b m).op.op)&&((cop .eql m.op.part (sel b m).op.part)&&true)))))=(b 2||zf m 2):=by
  rw [Bool.not_not]
  show ((cop .eql m.op.core (if b 2=true then m.op else zid).core)&&((cop .eql m.op.op (if b 2=true then m.op else zid).op)&&((cop .eql m.op.part (if b 2=true then m.op else zid).part)&&true)))=(b 2||decide (m.op=zid))
  cases b 2 with
  | true => simp [cop]
  | false => rw [Zi, Bool.false_or, decide_eq_true_eq]; exact Ya _ _ _
 have e4:(!(!(m.settled == (sel b m).settled)))=(b 4||zf m 4):=by
  show (!(!(m.settled == (if b 4=true then m.settled else false))))=(b 4||!m.settled)
  cases b 4 <;> cases m.settled <;> rfl
 have e1:Zba m.req (sel b m).req=(b 1||zf m 1):=by
  show Zba m.req (if b 1=true then m.req else Z7)=(b 1||Zr5 m.req)
  cases b 1 with
  | true => exact Zbp _
  | false => exact Zk5 _
 have e7:decide (m.ids=(sel b m).ids)=(b 7||zf m 7):=by
  show decide (m.ids=(if b 7=true then m.ids else []))=(b 7||decide (m.ids.length=0))
  cases b 7 <;> simp
 have e5:J5 KM m.nodes (sel b m).nodes=(b 5||zf m 5):=by
  show J5 KM m.nodes (if b 5=true then m.nodes else [])=(b 5||decide (m.nodes.length=0))
  cases b 5 with
  | true => exact Jm _ KB _
  | false => exact Yl _ _
 have e9:J5 Za6 m.cores (sel b m).cores=(b 9||zf m 9):=by
  show J5 Za6 m.cores (if b 9=true then m.cores else [])=(b 9||decide (m.cores.length=0))
  cases b 9 with
  | true => exact Jm _ (fun a => by simp [Za6]) _
  | false => exact Yl _ _
 have e14:J5 WD m.moves (sel b m).moves=(b 14||zf m 14):=by
  show J5 WD m.moves (if b 14=true then m.moves else [])=(b 14||decide (m.moves.length=0))
  cases b 14 with
  | true => exact Jm _ (fun a => by simp [WD]) _
  | false => exact Yl _ _
 have e12:ZdX m.next (sel b m).next=(b 12||zf m 12):=by
  show ZdX m.next (if b 12=true then m.next else ZD)=(b 12||Zd6 m.next)
  cases b 12 with
  | true => exact Zbv _
  | false => exact Zbr _
 have e13:WF m.state (sel b m).state=(b 13||zf m 13):=by
  show WF m.state (if b 13=true then m.state else Zk)=(b 13||Zaf m.state)
  cases b 13 with
  | true => exact WW _
  | false => exact WV _
 have e10:Wa m.report (sel b m).report=(b 10||zf m 10):=by
  show Wa m.report (if b 10=true then m.report else Zm)=(b 10||Zbw m.report)
  cases b 10 with
  | true => exact ZbL _
  | false => exact Zgy _
 unfold ZkU
 rw [k0,k1,k2,k3,e8,e0,e6,e2,e3,e4,e11,e1,e7,e5,e9,e14,e12,e13,e10]
 show _=((b 0||zf m 0)&&((b 1||zf m 1)&&((b 2||zf m 2)&&((b 3||zf m 3)&&((b 4||zf m 4)&&((b 5||zf m 5)&&((b 6||zf m 6)&&((b 7||zf m 7)&&((b 8||zf m 8)&&((b 9||zf m 9)&&((b 10||zf m 10)&&((b 11||zf m 11)&&((b 12||zf m 12)&&((b 13||zf m 13)&&((b 14||zf m 14)&&true)))))))))))))))
 simp only [Bool.true_and,Bool.and_true]
 ac_rfl
theorem Zqk:ZhN false=WA:=by funext i; simp [ZhN]
theorem JG {n:Nat} {m:Msg} (h:rest n m=true) (g:Nat) (hg:g < 15) (hc:(kf n).contains g=false):zf m g=true:=by
 have this:((kf n).contains g||zf m g)=true:=(List.all_eq_true.1 h) g (List.mem_range.2 hg)
 rwa [hc,Bool.false_or] at this
theorem Jh {m:Msg} (h:zf m 5=true):m.nodes.all ZF=true:=by
 have h0:m.nodes.length=0:=of_decide_eq_true h
 rw [List.length_eq_zero_iff.1 h0]; rfl
theorem We {m:Msg} (h:zf m 0=true):Z2 m.region=true:=by
 have h0:m.region=0:=of_decide_eq_true h
 rw [h0]; rfl
theorem Zxw (m:Msg) (h:m.Fits) (hk:m.kind=1) (h1:Jw m.view=true) (h2:Zs m.frm=true) (h3:Zs m.to=true):G10 m=some ((kf 1).all (Zh m)&&rest 1 m):=by
 have L:∀ ok,G10L m m.kind m.view m.frm m.to 0 m.region 0 0 0 0 0 false m.req.id.core m.req.id.op m.req.id.part m.req.call.kind m.req.call.slot m.req.call.dest m.req.call.core m.req.call.mask m.req.call.object m.req.call.bits m.req.call.level m.req.call.offset m.req.call.count m.req.call.index m.req.call.addr m.req.region m.req.width m.req.src.id.core m.req.src.id.op m.req.src.id.part (Zb m.req.src.path) m.req.src.cap.kind m.req.src.cap.base m.req.src.cap.bits m.req.src.cap.rights m.req.src.cap.width m.req.src.cap.level m.req.src.cap.device E0 E0 E0 E0 0 0 E0 E0 E0 E0 E0 E0 E0 E0 0 0 E0 E0 E0 E0 E0 E0 E0 E0 false 0 E0 E0 E0 E0 E0 E0 E0 E0 ok 0=some (ok&&(m.nodes.all ZF&&(Z2 m.region&&rest 1 m))):=fun ok=>by
  have q:=l56 m (sel (fun g=>(kf 1).contains g) m) h (JF _ h) m.nodes.length 0 Zx ok (by omega) (by have:=JK h.nodes; omega)
  rw [List.drop_zero,JC] at q
  exact q
 unfold G10
 rw [Yq,if_neg (show ¬ (cop .lss m.kind 1)=true by simp only [CQ]; omega),if_neg (show ¬ (cop .gtr m.kind 17)=true by simp only [CQ]; omega),s89,Option.bind_some,h1,s90,Option.bind_some,h2,s90,Option.bind_some,h3]
 rw [if_neg (show ¬ (!true)=true by decide),if_neg (show ¬ (!true)=true by decide),if_neg (show ¬ (!true)=true by decide)]
 rw [if_pos (keq hk)]
 simp only [L,s91 _ h.req,Option.bind_some]
 cases hr:rest 1 m with
 | false =>
  simp only [Bool.and_false]
  repeat' split
  all_goals rfl
 | true =>
  have hn:=Jh (JG hr 5 (by omega) rfl)
  show _=some ((Zh m 0&&(Zh m 1&&true))&&true)
  repeat' split
  all_goals (refine congrArg some ?_; rw [Zi]; simp only [Zh,Jr,CQ] at * <;> grind)
theorem Zyp (m:Msg) (h:m.Fits) (hk:m.kind=2) (h1:Jw m.view=true) (h2:Zs m.frm=true) (h3:Zs m.to=true):G10 m=some ((kf 2).all (Zh m)&&rest 2 m):=by
 have L:∀ ok,G10L m m.kind m.view m.frm m.to 0 m.region 0 m.op.core m.op.op m.op.part m.err m.settled 0 0 0 0 0 0 0 0 0 0 0 0 0 0 0 0 0 0 0 0 E0 0 0 0 0 0 0 false E0 (m.nodes.map Js) E0 E0 0 0 E0 E0 E0 E0 E0 E0 E0 E0 0 0 E0 E0 E0 E0 E0 E0 E0 E0 false 0 E0 E0 E0 E0 E0 E0 E0 E0 ok 0=some (ok&&(m.nodes.all ZF&&(Z2 m.region&&rest 2 m))):=fun ok=>by
  have q:=l56 m (sel (fun g=>(kf 2).contains g) m) h (JF _ h) m.nodes.length 0 Zx ok (by omega) (by have:=JK h.nodes; omega)
  rw [List.drop_zero,JC] at q
  exact q
 unfold G10
 rw [Yq,if_neg (show ¬ (cop .lss m.kind 1)=true by simp only [CQ]; omega),if_neg (show ¬ (cop .gtr m.kind 17)=true by simp only [CQ]; omega),s89,Option.bind_some,h1,s90,Option.bind_some,h2,s90,Option.bind_some,h3]
 rw [if_neg (show ¬ (!true)=true by decide),if_neg (show ¬ (!true)=true by decide),if_neg (show ¬ (!true)=true by decide)]
 rw [if_neg (kne (show m.kind≠1 by omega))]
 rw [if_pos (keq hk)]
 simp only [L,s92,s93,List.length_map,Option.bind_some]
 cases hr:rest 2 m with
 | false =>
  simp only [Bool.and_false]
  repeat' split
  all_goals rfl
 | true =>
  show _=some ((Zh m 0&&(Zh m 2&&(Zh m 3&&(Zh m 4&&(Zh m 5&&true)))))&&true)
  repeat' split
  all_goals (refine congrArg some ?_; rw [Zi]; simp only [Zh,Jr,CQ] at * <;> grind)
theorem ZwU (m:Msg) (h:m.Fits) (hk:m.kind=3) (h1:Jw m.view=true) (h2:Zs m.frm=true) (h3:Zs m.to=true):G10 m=some ((kf 3).all (Zh m)&&rest 3 m):=by
 have L:∀ ok,G10L m m.kind m.view m.frm m.to 0 m.region 0 m.op.core m.op.op m.op.part 0 false 0 0 0 0 0 0 0 0 0 0 0 0 0 0 0 0 0 0 0 0 E0 0 0 0 0 0 0 false E0 E0 E0 E0 0 0 E0 E0 E0 E0 E0 E0 E0 E0 0 0 E0 E0 E0 E0 E0 E0 E0 E0 false 0 E0 E0 E0 E0 E0 E0 E0 E0 ok 0=some (ok&&(m.nodes.all ZF&&(Z2 m.region&&rest 3 m))):=fun ok=>by
  have q:=l56 m (sel (fun g=>(kf 3).contains g) m) h (JF _ h) m.nodes.length 0 Zx ok (by omega) (by have:=JK h.nodes; omega)
  rw [List.drop_zero,JC] at q
  exact q
 unfold G10
 rw [Yq,if_neg (show ¬ (cop .lss m.kind 1)=true by simp only [CQ]; omega),if_neg (show ¬ (cop .gtr m.kind 17)=true by simp only [CQ]; omega),s89,Option.bind_some,h1,s90,Option.bind_some,h2,s90,Option.bind_some,h3]
 rw [if_neg (show ¬ (!true)=true by decide),if_neg (show ¬ (!true)=true by decide),if_neg (show ¬ (!true)=true by decide)]
 rw [if_neg (kne (show m.kind≠1 by omega))]
 rw [if_neg (kne (show m.kind≠2 by omega))]
 rw [if_neg (kne (show m.kind≠4 by omega))]
 rw [if_neg (kne (show m.kind≠5 by omega))]
 rw [if_neg (kne (show m.kind≠6 by omega))]
 rw [if_neg (kne (show m.kind≠12 by omega))]
 rw [if_neg (kne (show m.kind≠13 by omega))]
 rw [if_neg (kne (show m.kind≠14 by omega))]
 rw [if_neg (kne (show m.kind≠15 by omega))]
 rw [if_neg (kne (show m.kind≠16 by omega))]
 rw [if_neg (kne (show m.kind≠17 by omega))]
 simp only [L,s92,Option.bind_some]
 cases hr:rest 3 m with
 | false =>
  simp only [Bool.and_false]
  repeat' split
  all_goals rfl
 | true =>
  have hn:=Jh (JG hr 5 (by omega) rfl)
  show _=some ((Zh m 0&&(Zh m 2&&true))&&true)
  repeat' split
  all_goals (refine congrArg some ?_; rw [Zi]; simp only [Zh,Jr,CQ] at * <;> grind)
theorem Zwm (m:Msg) (h:m.Fits) (hk:m.kind=4) (h1:Jw m.view=true) (h2:Zs m.frm=true) (h3:Zs m.to=true):G10 m=some ((kf 4).all (Zh m)&&rest 4 m):=by
 have L:∀ ok,G10L m m.kind m.view m.frm m.to 0 m.region m.slot m.op.core m.op.op m.op.part 0 false 0 0 0 0 0 0 0 0 0 0 0 0 0 0 0 0 0 0 0 0 E0 0 0 0 0 0 0 false E0 (m.nodes.map Js) E0 E0 0 0 E0 E0 E0 E0 E0 E0 E0 E0 0 0 E0 E0 E0 E0 E0 E0 E0 E0 false 0 E0 E0 E0 E0 E0 E0 E0 E0 ok 0=some (ok&&(m.nodes.all ZF&&(Z2 m.region&&rest 4 m))):=fun ok=>by
  have q:=l56 m (sel (fun g=>(kf 4).contains g) m) h (JF _ h) m.nodes.length 0 Zx ok (by omega) (by have:=JK h.nodes; omega)
  rw [List.drop_zero,JC] at q
  exact q
 unfold G10
 rw [Yq,if_neg (show ¬ (cop .lss m.kind 1)=true by simp only [CQ]; omega),if_neg (show ¬ (cop .gtr m.kind 17)=true by simp only [CQ]; omega),s89,Option.bind_some,h1,s90,Option.bind_some,h2,s90,Option.bind_some,h3]
 rw [if_neg (show ¬ (!true)=true by decide),if_neg (show ¬ (!true)=true by decide),if_neg (show ¬ (!true)=true by decide)]
 rw [if_neg (kne (show m.kind≠1 by omega))]
 rw [if_neg (kne (show m.kind≠2 by omega))]
 rw [if_pos (keq hk)]
 simp only [L,s92,List.length_map,Option.bind_some]
 cases hr:rest 4 m with
 | false =>
  simp only [Bool.and_false]
  repeat' split
  all_goals rfl
 | true =>
  show _=some ((Zh m 0&&(Zh m 2&&(Zh m 6&&(Zh m 5&&true))))&&true)
  repeat' split
  all_goals (refine congrArg some ?_; rw [Zi]; simp only [Zh,Jr,CQ] at * <;> grind)
theorem ZwM (m:Msg) (h:m.Fits) (hk:m.kind=5) (h1:Jw m.view=true) (h2:Zs m.frm=true) (h3:Zs m.to=true):G10 m=some ((kf 5).all (Zh m)&&rest 5 m):=by
 have L:∀ ok,G10L m m.kind m.view m.frm m.to 0 m.region 0 m.op.core m.op.op m.op.part m.err false 0 0 0 0 0 0 0 0 0 0 0 0 0 0 0 0 0 0 0 0 E0 0 0 0 0 0 0 false E0 E0 E0 E0 0 0 E0 E0 E0 E0 E0 E0 E0 E0 0 0 E0 E0 E0 E0 E0 E0 E0 E0 false 0 E0 E0 E0 E0 E0 E0 E0 E0 ok 0=some (ok&&(m.nodes.all ZF&&(Z2 m.region&&rest 5 m))):=fun ok=>by
  have q:=l56 m (sel (fun g=>(kf 5).contains g) m) h (JF _ h) m.nodes.length 0 Zx ok (by omega) (by have:=JK h.nodes; omega)
  rw [List.drop_zero,JC] at q
  exact q
 unfold G10
 rw [Yq,if_neg (show ¬ (cop .lss m.kind 1)=true by simp only [CQ]; omega),if_neg (show ¬ (cop .gtr m.kind 17)=true by simp only [CQ]; omega),s89,Option.bind_some,h1,s90,Option.bind_some,h2,s90,Option.bind_some,h3]
 rw [if_neg (show ¬ (!true)=true by decide),if_neg (show ¬ (!true)=true by decide),if_neg (show ¬ (!true)=true by decide)]
 rw [if_neg (kne (show m.kind≠1 by omega))]
 rw [if_neg (kne (show m.kind≠2 by omega))]
 rw [if_neg (kne (show m.kind≠4 by omega))]
 rw [if_pos (keq hk)]
 simp only [L,s92,s93,Option.bind_some]
 cases hr:rest 5 m with
 | false =>
  simp only [Bool.and_false]
  repeat' split
  all_goals rfl
 | true =>
  have hn:=Jh (JG hr 5 (by omega) rfl)
  show _=some ((Zh m 0&&(Zh m 2&&(Zh m 3&&true)))&&true)
  repeat' split
  all_goals (refine congrArg some ?_; rw [Zi]; simp only [Zh,Jr,CQ] at * <;> grind)
theorem Zxb (m:Msg) (h:m.Fits) (hk:m.kind=6) (h1:Jw m.view=true) (h2:Zs m.frm=true) (h3:Zs m.to=true):G10 m=some ((kf 6).all (Zh m)&&rest 6 m):=by
 have L:∀ ok,G10L m m.kind m.view m.frm m.to 0 m.region 0 m.op.core m.op.op m.op.part 0 false 0 0 0 0 0 0 0 0 0 0 0 0 0 0 0 0 0 0 0 0 E0 0 0 0 0 0 0 false (Zb m.ids) E0 E0 E0 0 0 E0 E0 E0 E0 E0 E0 E0 E0 0 0 E0 E0 E0 E0 E0 E0 E0 E0 false 0 E0 E0 E0 E0 E0 E0 E0 E0 ok 0=some (ok&&(m.nodes.all ZF&&(Z2 m.region&&rest 6 m))):=fun ok=>by
  have q:=l56 m (sel (fun g=>(kf 6).contains g) m) h (JF _ h) m.nodes.length 0 Zx ok (by omega) (by have:=JK h.nodes; omega)
  rw [List.drop_zero,JC] at q
  exact q
 unfold G10
 rw [Yq,if_neg (show ¬ (cop .lss m.kind 1)=true by simp only [CQ]; omega),if_neg (show ¬ (cop .gtr m.kind 17)=true by simp only [CQ]; omega),s89,Option.bind_some,h1,s90,Option.bind_some,h2,s90,Option.bind_some,h3]
 rw [if_neg (show ¬ (!true)=true by decide),if_neg (show ¬ (!true)=true by decide),if_neg (show ¬ (!true)=true by decide)]
 rw [if_neg (kne (show m.kind≠1 by omega))]
 rw [if_neg (kne (show m.kind≠2 by omega))]
 rw [if_neg (kne (show m.kind≠4 by omega))]
 rw [if_neg (kne (show m.kind≠5 by omega))]
 rw [if_pos (keq hk)]
 simp only [L,s92,s94 _ _ h.ids,ZY,Zqk,Option.bind_some]
 cases hr:rest 6 m with
 | false =>
  simp only [Bool.and_false]
  repeat' split
  all_goals rfl
 | true =>
  have hn:=Jh (JG hr 5 (by omega) rfl)
  show _=some ((Zh m 0&&(Zh m 2&&(Zh m 7&&true)))&&true)
  repeat' split
  all_goals (refine congrArg some ?_; rw [Zi]; simp only [Zh,Jr,CQ] at * <;> grind)
theorem Zyf (m:Msg) (h:m.Fits) (hk:m.kind=7) (h1:Jw m.view=true) (h2:Zs m.frm=true) (h3:Zs m.to=true):G10 m=some ((kf 7).all (Zh m)&&rest 7 m):=by
 have L:∀ ok,G10L m m.kind m.view m.frm m.to 0 m.region 0 m.op.core m.op.op m.op.part 0 false 0 0 0 0 0 0 0 0 0 0 0 0 0 0 0 0 0 0 0 0 E0 0 0 0 0 0 0 false E0 E0 E0 E0 0 0 E0 E0 E0 E0 E0 E0 E0 E0 0 0 E0 E0 E0 E0 E0 E0 E0 E0 false 0 E0 E0 E0 E0 E0 E0 E0 E0 ok 0=some (ok&&(m.nodes.all ZF&&(Z2 m.region&&rest 7 m))):=fun ok=>by
  have q:=l56 m (sel (fun g=>(kf 7).contains g) m) h (JF _ h) m.nodes.length 0 Zx ok (by omega) (by have:=JK h.nodes; omega)
  rw [List.drop_zero,JC] at q
  exact q
 unfold G10
 rw [Yq,if_neg (show ¬ (cop .lss m.kind 1)=true by simp only [CQ]; omega),if_neg (show ¬ (cop .gtr m.kind 17)=true by simp only [CQ]; omega),s89,Option.bind_some,h1,s90,Option.bind_some,h2,s90,Option.bind_some,h3]
 rw [if_neg (show ¬ (!true)=true by decide),if_neg (show ¬ (!true)=true by decide),if_neg (show ¬ (!true)=true by decide)]
 rw [if_neg (kne (show m.kind≠1 by omega))]
 rw [if_neg (kne (show m.kind≠2 by omega))]
 rw [if_neg (kne (show m.kind≠4 by omega))]
 rw [if_neg (kne (show m.kind≠5 by omega))]
 rw [if_neg (kne (show m.kind≠6 by omega))]
 rw [if_neg (kne (show m.kind≠12 by omega))]
 rw [if_neg (kne (show m.kind≠13 by omega))]
 rw [if_neg (kne (show m.kind≠14 by omega))]
 rw [if_neg (kne (show m.kind≠15 by omega))]
 rw [if_neg (kne (show m.kind≠16 by omega))]
 rw [if_neg (kne (show m.kind≠17 by omega))]
 simp only [L,s92,Option.bind_some]
 cases hr:rest 7 m with
 | false =>
  simp only [Bool.and_false]
  repeat' split
  all_goals rfl
 | true =>
  have hn:=Jh (JG hr 5 (by omega) rfl)
  show _=some ((Zh m 0&&(Zh m 2&&true))&&true)
  repeat' split
  all_goals (refine congrArg some ?_; rw [Zi]; simp only [Zh,Jr,CQ] at * <;> grind)
theorem ZwK (m:Msg) (h:m.Fits) (hk:m.kind=8) (h1:Jw m.view=true) (h2:Zs m.frm=true) (h3:Zs m.to=true):G10 m=some ((kf 8).all (Zh m)&&rest 8 m):=by
 have L:∀ ok,G10L m m.kind m.view m.frm m.to 0 m.region 0 m.op.core m.op.op m.op.part 0 false 0 0 0 0 0 0 0 0 0 0 0 0 0 0 0 0 0 0 0 0 E0 0 0 0 0 0 0 false E0 E0 E0 E0 0 0 E0 E0 E0 E0 E0 E0 E0 E0 0 0 E0 E0 E0 E0 E0 E0 E0 E0 false 0 E0 E0 E0 E0 E0 E0 E0 E0 ok 0=some (ok&&(m.nodes.all ZF&&(Z2 m.region&&rest 8 m))):=fun ok=>by
  have q:=l56 m (sel (fun g=>(kf 8).contains g) m) h (JF _ h) m.nodes.length 0 Zx ok (by omega) (by have:=JK h.nodes; omega)
  rw [List.drop_zero,JC] at q
  exact q
 unfold G10
 rw [Yq,if_neg (show ¬ (cop .lss m.kind 1)=true by simp only [CQ]; omega),if_neg (show ¬ (cop .gtr m.kind 17)=true by simp only [CQ]; omega),s89,Option.bind_some,h1,s90,Option.bind_some,h2,s90,Option.bind_some,h3]
 rw [if_neg (show ¬ (!true)=true by decide),if_neg (show ¬ (!true)=true by decide),if_neg (show ¬ (!true)=true by decide)]
 rw [if_neg (kne (show m.kind≠1 by omega))]
 rw [if_neg (kne (show m.kind≠2 by omega))]
 rw [if_neg (kne (show m.kind≠4 by omega))]
 rw [if_neg (kne (show m.kind≠5 by omega))]
 rw [if_neg (kne (show m.kind≠6 by omega))]
 rw [if_neg (kne (show m.kind≠12 by omega))]
 rw [if_neg (kne (show m.kind≠13 by omega))]
 rw [if_neg (kne (show m.kind≠14 by omega))]
 rw [if_neg (kne (show m.kind≠15 by omega))]
 rw [if_neg (kne (show m.kind≠16 by omega))]
 rw [if_neg (kne (show m.kind≠17 by omega))]
 simp only [L,s92,Option.bind_some]
 cases hr:rest 8 m with
 | false =>
  simp only [Bool.and_false]
  repeat' split
  all_goals rfl
 | true =>
  have hn:=Jh (JG hr 5 (by omega) rfl)
  show _=some ((Zh m 0&&(Zh m 2&&true))&&true)
  repeat' split
  all_goals (refine congrArg some ?_; rw [Zi]; simp only [Zh,Jr,CQ] at * <;> grind)
theorem Zx8 (m:Msg) (h:m.Fits) (hk:m.kind=9) (h1:Jw m.view=true) (h2:Zs m.frm=true) (h3:Zs m.to=true):G10 m=some ((kf 9).all (Zh m)&&rest 9 m):=by
 have L:∀ ok,G10L m m.kind m.view m.frm m.to 0 m.region 0 m.op.core m.op.op m.op.part 0 false 0 0 0 0 0 0 0 0 0 0 0 0 0 0 0 0 0 0 0 0 E0 0 0 0 0 0 0 false E0 E0 E0 E0 0 0 E0 E0 E0 E0 E0 E0 E0 E0 0 0 E0 E0 E0 E0 E0 E0 E0 E0 false 0 E0 E0 E0 E0 E0 E0 E0 E0 ok 0=some (ok&&(m.nodes.all ZF&&(Z2 m.region&&rest 9 m))):=fun ok=>by
  have q:=l56 m (sel (fun g=>(kf 9).contains g) m) h (JF _ h) m.nodes.length 0 Zx ok (by omega) (by have:=JK h.nodes; omega)
  rw [List.drop_zero,JC] at q
  exact q
 unfold G10
 rw [Yq,if_neg (show ¬ (cop .lss m.kind 1)=true by simp only [CQ]; omega),if_neg (show ¬ (cop .gtr m.kind 17)=true by simp only [CQ]; omega),s89,Option.bind_some,h1,s90,Option.bind_some,h2,s90,Option.bind_some,h3]
 rw [if_neg (show ¬ (!true)=true by decide),if_neg (show ¬ (!true)=true by decide),if_neg (show ¬ (!true)=true by decide)]
 rw [if_neg (kne (show m.kind≠1 by omega))]
 rw [if_neg (kne (show m.kind≠2 by omega))]
 rw [if_neg (kne (show m.kind≠4 by omega))]
 rw [if_neg (kne (show m.kind≠5 by omega))]
 rw [if_neg (kne (show m.kind≠6 by omega))]
 rw [if_neg (kne (show m.kind≠12 by omega))]
 rw [if_neg (kne (show m.kind≠13 by omega))]
 rw [if_neg (kne (show m.kind≠14 by omega))]
 rw [if_neg (kne (show m.kind≠15 by omega))]
 rw [if_neg (kne (show m.kind≠16 by omega))]
 rw [if_neg (kne (show m.kind≠17 by omega))]
 simp only [L,s92,Option.bind_some]
 cases hr:rest 9 m with
 | false =>
  simp only [Bool.and_false]
  repeat' split
  all_goals rfl
 | true =>
  have hn:=Jh (JG hr 5 (by omega) rfl)
  show _=some ((Zh m 0&&(Zh m 2&&true))&&true)
  repeat' split
  all_goals (refine congrArg some ?_; rw [Zi]; simp only [Zh,Jr,CQ] at * <;> grind)
theorem Ztg (m:Msg) (h:m.Fits) (hk:m.kind=10) (h1:Jw m.view=true) (h2:Zs m.frm=true) (h3:Zs m.to=true):G10 m=some ((kf 10).all (Zh m)&&rest 10 m):=by
 have L:∀ ok,G10L m m.kind m.view m.frm m.to 0 m.region 0 m.op.core m.op.op m.op.part 0 false 0 0 0 0 0 0 0 0 0 0 0 0 0 0 0 0 0 0 0 0 E0 0 0 0 0 0 0 false E0 E0 E0 E0 0 0 E0 E0 E0 E0 E0 E0 E0 E0 0 0 E0 E0 E0 E0 E0 E0 E0 E0 false 0 E0 E0 E0 E0 E0 E0 E0 E0 ok 0=some (ok&&(m.nodes.all ZF&&(Z2 m.region&&rest 10 m))):=fun ok=>by
  have q:=l56 m (sel (fun g=>(kf 10).contains g) m) h (JF _ h) m.nodes.length 0 Zx ok (by omega) (by have:=JK h.nodes; omega)
  rw [List.drop_zero,JC] at q
  exact q
 unfold G10
 rw [Yq,if_neg (show ¬ (cop .lss m.kind 1)=true by simp only [CQ]; omega),if_neg (show ¬ (cop .gtr m.kind 17)=true by simp only [CQ]; omega),s89,Option.bind_some,h1,s90,Option.bind_some,h2,s90,Option.bind_some,h3]
 rw [if_neg (show ¬ (!true)=true by decide),if_neg (show ¬ (!true)=true by decide),if_neg (show ¬ (!true)=true by decide)]
 rw [if_neg (kne (show m.kind≠1 by omega))]
 rw [if_neg (kne (show m.kind≠2 by omega))]
 rw [if_neg (kne (show m.kind≠4 by omega))]
 rw [if_neg (kne (show m.kind≠5 by omega))]
 rw [if_neg (kne (show m.kind≠6 by omega))]
 rw [if_neg (kne (show m.kind≠12 by omega))]
 rw [if_neg (kne (show m.kind≠13 by omega))]
 rw [if_neg (kne (show m.kind≠14 by omega))]
 rw [if_neg (kne (show m.kind≠15 by omega))]
 rw [if_neg (kne (show m.kind≠16 by omega))]
 rw [if_neg (kne (show m.kind≠17 by omega))]
 simp only [L,s92,Option.bind_some]
 cases hr:rest 10 m with
 | false =>
  simp only [Bool.and_false]
  repeat' split
  all_goals rfl
 | true =>
  have hn:=Jh (JG hr 5 (by omega) rfl)
  show _=some ((Zh m 0&&(Zh m 2&&true))&&true)
  repeat' split
  all_goals (refine congrArg some ?_; rw [Zi]; simp only [Zh,Jr,CQ] at * <;> grind)
theorem ZsV (m:Msg) (h:m.Fits) (hk:m.kind=11) (h1:Jw m.view=true) (h2:Zs m.frm=true) (h3:Zs m.to=true):G10 m=some ((kf 11).all (Zh m)&&rest 11 m):=by
 have L:∀ ok,G10L m m.kind m.view m.frm m.to 0 m.region 0 m.op.core m.op.op m.op.part 0 false 0 0 0 0 0 0 0 0 0 0 0 0 0 0 0 0 0 0 0 0 E0 0 0 0 0 0 0 false E0 E0 E0 E0 0 0 E0 E0 E0 E0 E0 E0 E0 E0 0 0 E0 E0 E0 E0 E0 E0 E0 E0 false 0 E0 E0 E0 E0 E0 E0 E0 E0 ok 0=some (ok&&(m.nodes.all ZF&&(Z2 m.region&&rest 11 m))):=fun ok=>by
  have q:=l56 m (sel (fun g=>(kf 11).contains g) m) h (JF _ h) m.nodes.length 0 Zx ok (by omega) (by have:=JK h.nodes; omega)
  rw [List.drop_zero,JC] at q
  exact q
 unfold G10
 rw [Yq,if_neg (show ¬ (cop .lss m.kind 1)=true by simp only [CQ]; omega),if_neg (show ¬ (cop .gtr m.kind 17)=true by simp only [CQ]; omega),s89,Option.bind_some,h1,s90,Option.bind_some,h2,s90,Option.bind_some,h3]
 rw [if_neg (show ¬ (!true)=true by decide),if_neg (show ¬ (!true)=true by decide),if_neg (show ¬ (!true)=true by decide)]
 rw [if_neg (kne (show m.kind≠1 by omega))]
 rw [if_neg (kne (show m.kind≠2 by omega))]
 rw [if_neg (kne (show m.kind≠4 by omega))]
 rw [if_neg (kne (show m.kind≠5 by omega))]
 rw [if_neg (kne (show m.kind≠6 by omega))]
 rw [if_neg (kne (show m.kind≠12 by omega))]
 rw [if_neg (kne (show m.kind≠13 by omega))]
 rw [if_neg (kne (show m.kind≠14 by omega))]
 rw [if_neg (kne (show m.kind≠15 by omega))]
 rw [if_neg (kne (show m.kind≠16 by omega))]
 rw [if_neg (kne (show m.kind≠17 by omega))]
 simp only [L,s92,Option.bind_some]
 cases hr:rest 11 m with
 | false =>
  simp only [Bool.and_false]
  repeat' split
  all_goals rfl
 | true =>
  have hn:=Jh (JG hr 5 (by omega) rfl)
  show _=some ((Zh m 0&&(Zh m 2&&true))&&true)
  repeat' split
  all_goals (refine congrArg some ?_; rw [Zi]; simp only [Zh,Jr,CQ] at * <;> grind)
theorem ZtI (m:Msg) (h:m.Fits) (hk:m.kind=12) (h1:Jw m.view=true) (h2:Zs m.frm=true) (h3:Zs m.to=true):G10 m=some ((kf 12).all (Zh m)&&rest 12 m):=by
 have L:∀ ok,G10L m m.kind m.view m.frm m.to m.round 0 0 0 0 0 0 false 0 0 0 0 0 0 0 0 0 0 0 0 0 0 0 0 0 0 0 0 E0 0 0 0 0 0 0 false E0 E0 (Za m.cores) E0 0 0 E0 E0 E0 E0 E0 E0 E0 E0 0 0 E0 E0 E0 E0 E0 E0 E0 E0 false 0 E0 E0 E0 E0 E0 E0 E0 E0 ok 0=some (ok&&(m.nodes.all ZF&&(Z2 m.region&&rest 12 m))):=fun ok=>by
  have q:=l56 m (sel (fun g=>(kf 12).contains g) m) h (JF _ h) m.nodes.length 0 Zx ok (by omega) (by have:=JK h.nodes; omega)
  rw [List.drop_zero,JC] at q
  exact q
 unfold G10
 rw [Yq,if_neg (show ¬ (cop .lss m.kind 1)=true by simp only [CQ]; omega),if_neg (show ¬ (cop .gtr m.kind 17)=true by simp only [CQ]; omega),s89,Option.bind_some,h1,s90,Option.bind_some,h2,s90,Option.bind_some,h3]
 rw [if_neg (show ¬ (!true)=true by decide),if_neg (show ¬ (!true)=true by decide),if_neg (show ¬ (!true)=true by decide)]
 rw [if_neg (kne (show m.kind≠1 by omega))]
 rw [if_neg (kne (show m.kind≠2 by omega))]
 rw [if_neg (kne (show m.kind≠4 by omega))]
 rw [if_neg (kne (show m.kind≠5 by omega))]
 rw [if_neg (kne (show m.kind≠6 by omega))]
 rw [if_pos (keq hk)]
 simp only [L,s89,s95 _ h.cores,Option.bind_some]
 cases hr:rest 12 m with
 | false =>
  simp only [Bool.and_false]
  repeat' split
  all_goals rfl
 | true =>
  have hn:=Jh (JG hr 5 (by omega) rfl)
  have hg:=We (JG hr 0 (by omega) rfl)
  show _=some ((Zh m 8&&(Zh m 9&&true))&&true)
  repeat' split
  all_goals (refine congrArg some ?_; rw [Zi]; simp only [Zh,Jr,CQ] at * <;> grind)
theorem ZuA (m:Msg) (h:m.Fits) (hk:m.kind=13) (h1:Jw m.view=true) (h2:Zs m.frm=true) (h3:Zs m.to=true):G10 m=some ((kf 13).all (Zh m)&&rest 13 m):=by
 have L:∀ ok,G10L m m.kind m.view m.frm m.to m.round 0 0 0 0 0 0 false 0 0 0 0 0 0 0 0 0 0 0 0 0 0 0 0 0 0 0 0 E0 0 0 0 0 0 0 false E0 E0 E0 E0 0 0 E0 E0 E0 E0 E0 E0 E0 E0 m.report.core m.report.view.number (Za m.report.view.members) (Za m.report.view.owners) (m.report.state.slots.map Zg) (m.report.state.pending.map ZM) (m.report.state.marks.map Zj) (m.report.state.answers.map ZS) (m.report.state.entries.map Zd) (Zb m.report.state.commits) m.report.ready m.report.next.number (Za m.report.next.members) (Za m.report.next.owners) (m.report.proposal.slots.map Zg) (m.report.proposal.pending.map ZM) (m.report.proposal.marks.map Zj) (m.report.proposal.answers.map ZS) (m.report.proposal.entries.map Zd) (Zb m.report.proposal.commits) ok 0=some (ok&&(m.nodes.all ZF&&(Z2 m.region&&rest 13 m))):=fun ok=>by
  have q:=l56 m (sel (fun g=>(kf 13).contains g) m) h (JF _ h) m.nodes.length 0 Zx ok (by omega) (by have:=JK h.nodes; omega)
  rw [List.drop_zero,JC] at q
  exact q
 unfold G10
 rw [Yq,if_neg (show ¬ (cop .lss m.kind 1)=true by simp only [CQ]; omega),if_neg (show ¬ (cop .gtr m.kind 17)=true by simp only [CQ]; omega),s89,Option.bind_some,h1,s90,Option.bind_some,h2,s90,Option.bind_some,h3]
 rw [if_neg (show ¬ (!true)=true by decide),if_neg (show ¬ (!true)=true by decide),if_neg (show ¬ (!true)=true by decide)]
 rw [if_neg (kne (show m.kind≠1 by omega))]
 rw [if_neg (kne (show m.kind≠2 by omega))]
 rw [if_neg (kne (show m.kind≠4 by omega))]
 rw [if_neg (kne (show m.kind≠5 by omega))]
 rw [if_neg (kne (show m.kind≠6 by omega))]
 rw [if_neg (kne (show m.kind≠12 by omega))]
 rw [if_pos (keq hk)]
 simp only [L,s89,s96 _ h.report,Option.bind_some]
 cases hr:rest 13 m with
 | false =>
  simp only [Bool.and_false]
  repeat' split
  all_goals rfl
 | true =>
  have hn:=Jh (JG hr 5 (by omega) rfl)
  have hg:=We (JG hr 0 (by omega) rfl)
  show _=some ((Zh m 8&&(Zh m 10&&true))&&true)
  repeat' split
  all_goals (refine congrArg some ?_; rw [Zi]; simp only [Zh,Jr,CQ] at * <;> grind)
theorem Zuv (m:Msg) (h:m.Fits) (hk:m.kind=14) (h1:Jw m.view=true) (h2:Zs m.frm=true) (h3:Zs m.to=true):G10 m=some ((kf 14).all (Zh m)&&rest 14 m):=by
 have L:∀ ok,G10L m m.kind m.view m.frm m.to m.round 0 0 0 0 0 0 false 0 0 0 0 0 0 0 0 0 0 0 0 0 0 0 0 0 0 0 0 E0 0 0 0 0 0 0 false E0 E0 (Za m.cores) E0 m.base m.next.number (Za m.next.members) (Za m.next.owners) (m.state.slots.map Zg) (m.state.pending.map ZM) (m.state.marks.map Zj) (m.state.answers.map ZS) (m.state.entries.map Zd) (Zb m.state.commits) 0 0 E0 E0 E0 E0 E0 E0 E0 E0 false 0 E0 E0 E0 E0 E0 E0 E0 E0 ok 0=some (ok&&(m.nodes.all ZF&&(Z2 m.region&&rest 14 m))):=fun ok=>by
  have q:=l56 m (sel (fun g=>(kf 14).contains g) m) h (JF _ h) m.nodes.length 0 Zx ok (by omega) (by have:=JK h.nodes; omega)
  rw [List.drop_zero,JC] at q
  exact q
 unfold G10
 rw [Yq,if_neg (show ¬ (cop .lss m.kind 1)=true by simp only [CQ]; omega),if_neg (show ¬ (cop .gtr m.kind 17)=true by simp only [CQ]; omega),s89,Option.bind_some,h1,s90,Option.bind_some,h2,s90,Option.bind_some,h3]
 rw [if_neg (show ¬ (!true)=true by decide),if_neg (show ¬ (!true)=true by decide),if_neg (show ¬ (!true)=true by decide)]
 rw [if_neg (kne (show m.kind≠1 by omega))]
 rw [if_neg (kne (show m.kind≠2 by omega))]
 rw [if_neg (kne (show m.kind≠4 by omega))]
 rw [if_neg (kne (show m.kind≠5 by omega))]
 rw [if_neg (kne (show m.kind≠6 by omega))]
 rw [if_neg (kne (show m.kind≠12 by omega))]
 rw [if_neg (kne (show m.kind≠13 by omega))]
 rw [if_pos (keq hk)]
 simp only [L,s89,s95 _ h.cores,s97 _ h.next.members h.next.owners,s98 _ h.state,Option.bind_some]
 cases hr:rest 14 m with
 | false =>
  simp only [Bool.and_false]
  repeat' split
  all_goals rfl
 | true =>
  have hn:=Jh (JG hr 5 (by omega) rfl)
  have hg:=We (JG hr 0 (by omega) rfl)
  show _=some ((Zh m 8&&(Zh m 11&&(Zh m 9&&(Zh m 12&&(Zh m 13&&true)))))&&true)
  repeat' split
  all_goals (refine congrArg some ?_; rw [Zi]; simp only [Zh,Jr,CQ] at * <;> grind)
theorem ZuX (m:Msg) (h:m.Fits) (hk:m.kind=15) (h1:Jw m.view=true) (h2:Zs m.frm=true) (h3:Zs m.to=true):G10 m=some ((kf 15).all (Zh m)&&rest 15 m):=by
 have L:∀ ok,G10L m m.kind m.view m.frm m.to m.round 0 0 0 0 0 0 false 0 0 0 0 0 0 0 0 0 0 0 0 0 0 0 0 0 0 0 0 E0 0 0 0 0 0 0 false E0 E0 E0 E0 0 0 E0 E0 E0 E0 E0 E0 E0 E0 0 0 E0 E0 E0 E0 E0 E0 E0 E0 false 0 E0 E0 E0 E0 E0 E0 E0 E0 ok 0=some (ok&&(m.nodes.all ZF&&(Z2 m.region&&rest 15 m))):=fun ok=>by
  have q:=l56 m (sel (fun g=>(kf 15).contains g) m) h (JF _ h) m.nodes.length 0 Zx ok (by omega) (by have:=JK h.nodes; omega)
  rw [List.drop_zero,JC] at q
  exact q
 unfold G10
 rw [Yq,if_neg (show ¬ (cop .lss m.kind 1)=true by simp only [CQ]; omega),if_neg (show ¬ (cop .gtr m.kind 17)=true by simp only [CQ]; omega),s89,Option.bind_some,h1,s90,Option.bind_some,h2,s90,Option.bind_some,h3]
 rw [if_neg (show ¬ (!true)=true by decide),if_neg (show ¬ (!true)=true by decide),if_neg (show ¬ (!true)=true by decide)]
 rw [if_neg (kne (show m.kind≠1 by omega))]
 rw [if_neg (kne (show m.kind≠2 by omega))]
 rw [if_neg (kne (show m.kind≠4 by omega))]
 rw [if_neg (kne (show m.kind≠5 by omega))]
 rw [if_neg (kne (show m.kind≠6 by omega))]
 rw [if_neg (kne (show m.kind≠12 by omega))]
 rw [if_neg (kne (show m.kind≠13 by omega))]
 rw [if_neg (kne (show m.kind≠14 by omega))]
 rw [if_pos (keq hk)]
 simp only [L,s89,Option.bind_some]
 cases hr:rest 15 m with
 | false =>
  simp only [Bool.and_false]
  repeat' split
  all_goals rfl
 | true =>
  have hn:=Jh (JG hr 5 (by omega) rfl)
  have hg:=We (JG hr 0 (by omega) rfl)
  show _=some ((Zh m 8&&true)&&true)
  repeat' split
  all_goals (refine congrArg some ?_; rw [Zi]; simp only [Zh,Jr,CQ] at * <;> grind)
theorem ZtX (m:Msg) (h:m.Fits) (hk:m.kind=16) (h1:Jw m.view=true) (h2:Zs m.frm=true) (h3:Zs m.to=true):G10 m=some ((kf 16).all (Zh m)&&rest 16 m):=by
 have L:∀ ok,G10L m m.kind m.view m.frm m.to m.round 0 0 0 0 0 0 false 0 0 0 0 0 0 0 0 0 0 0 0 0 0 0 0 0 0 0 0 E0 0 0 0 0 0 0 false E0 E0 E0 E0 0 0 E0 E0 E0 E0 E0 E0 E0 E0 0 0 E0 E0 E0 E0 E0 E0 E0 E0 false 0 E0 E0 E0 E0 E0 E0 E0 E0 ok 0=some (ok&&(m.nodes.all ZF&&(Z2 m.region&&rest 16 m))):=fun ok=>by
  have q:=l56 m (sel (fun g=>(kf 16).contains g) m) h (JF _ h) m.nodes.length 0 Zx ok (by omega) (by have:=JK h.nodes; omega)
  rw [List.drop_zero,JC] at q
  exact q
 unfold G10
 rw [Yq,if_neg (show ¬ (cop .lss m.kind 1)=true by simp only [CQ]; omega),if_neg (show ¬ (cop .gtr m.kind 17)=true by simp only [CQ]; omega),s89,Option.bind_some,h1,s90,Option.bind_some,h2,s90,Option.bind_some,h3]
 rw [if_neg (show ¬ (!true)=true by decide),if_neg (show ¬ (!true)=true by decide),if_neg (show ¬ (!true)=true by decide)]
 rw [if_neg (kne (show m.kind≠1 by omega))]
 rw [if_neg (kne (show m.kind≠2 by omega))]
 rw [if_neg (kne (show m.kind≠4 by omega))]
 rw [if_neg (kne (show m.kind≠5 by omega))]
 rw [if_neg (kne (show m.kind≠6 by omega))]
 rw [if_neg (kne (show m.kind≠12 by omega))]
 rw [if_neg (kne (show m.kind≠13 by omega))]
 rw [if_neg (kne (show m.kind≠14 by omega))]
 rw [if_neg (kne (show m.kind≠15 by omega))]
 rw [if_pos (keq hk)]
 simp only [L,s89,Option.bind_some]
 cases hr:rest 16 m with
 | false =>
  simp only [Bool.and_false]
  repeat' split
  all_goals rfl
 | true =>
  have hn:=Jh (JG hr 5 (by omega) rfl)
  have hg:=We (JG hr 0 (by omega) rfl)
  show _=some ((Zh m 8&&true)&&true)
  repeat' split
  all_goals (refine congrArg some ?_; rw [Zi]; simp only [Zh,Jr,CQ] at * <;> grind)
theorem Ztx (m:Msg) (h:m.Fits) (hk:m.kind=17) (h1:Jw m.view=true) (h2:Zs m.frm=true) (h3:Zs m.to=true):G10 m=some ((kf 17).all (Zh m)&&rest 17 m):=by
 have L:∀ ok,G10L m m.kind m.view m.frm m.to 0 0 0 0 0 0 0 false 0 0 0 0 0 0 0 0 0 0 0 0 0 0 0 0 0 0 0 0 E0 0 0 0 0 0 0 false E0 E0 (Za m.cores) (m.moves.map Jt) 0 0 E0 E0 E0 E0 E0 E0 E0 E0 0 0 E0 E0 E0 E0 E0 E0 E0 E0 false 0 E0 E0 E0 E0 E0 E0 E0 E0 ok 0=some (ok&&(m.nodes.all ZF&&(Z2 m.region&&rest 17 m))):=fun ok=>by
  have q:=l56 m (sel (fun g=>(kf 17).contains g) m) h (JF _ h) m.nodes.length 0 Zx ok (by omega) (by have:=JK h.nodes; omega)
  rw [List.drop_zero,JC] at q
  exact q
 unfold G10
 rw [Yq,if_neg (show ¬ (cop .lss m.kind 1)=true by simp only [CQ]; omega),if_neg (show ¬ (cop .gtr m.kind 17)=true by simp only [CQ]; omega),s89,Option.bind_some,h1,s90,Option.bind_some,h2,s90,Option.bind_some,h3]
 rw [if_neg (show ¬ (!true)=true by decide),if_neg (show ¬ (!true)=true by decide),if_neg (show ¬ (!true)=true by decide)]
 rw [if_neg (kne (show m.kind≠1 by omega))]
 rw [if_neg (kne (show m.kind≠2 by omega))]
 rw [if_neg (kne (show m.kind≠4 by omega))]
 rw [if_neg (kne (show m.kind≠5 by omega))]
 rw [if_neg (kne (show m.kind≠6 by omega))]
 rw [if_neg (kne (show m.kind≠12 by omega))]
 rw [if_neg (kne (show m.kind≠13 by omega))]
 rw [if_neg (kne (show m.kind≠14 by omega))]
 rw [if_neg (kne (show m.kind≠15 by omega))]
 rw [if_neg (kne (show m.kind≠16 by omega))]
 rw [if_pos (keq hk)]
 simp only [L,s95 _ h.cores,s99 _ h.moves,Option.bind_some]
 cases hr:rest 17 m with
 | false =>
  simp only [Bool.and_false]
  repeat' split
  all_goals rfl
 | true =>
  have hn:=Jh (JG hr 5 (by omega) rfl)
  have hg:=We (JG hr 0 (by omega) rfl)
  show _=some ((Zh m 9&&(Zh m 14&&true))&&true)
  repeat' split
  all_goals (refine congrArg some ?_; rw [Zi]; simp only [Zh,Jr,CQ] at * <;> grind)
theorem Zwy (m:Msg) (h:m.Fits):G10 m=some (KF m):=by
 unfold KF headOk
 by_cases hk:1≤m.kind∧m.kind≤17
 ·rw [show kindOk m.kind=true from decide_eq_true hk]
  cases h1:Jw m.view with
  | false =>
   unfold G10
   rw [Yq,if_neg (show ¬ (cop .lss m.kind 1)=true by simp only [CQ]; omega),if_neg (show ¬ (cop .gtr m.kind 17)=true by simp only [CQ]; omega),s89,Option.bind_some,h1]
   rfl
  | true =>
   cases h2:Zs m.frm with
   | false =>
    unfold G10
    rw [Yq,if_neg (show ¬ (cop .lss m.kind 1)=true by simp only [CQ]; omega),if_neg (show ¬ (cop .gtr m.kind 17)=true by simp only [CQ]; omega),s89,Option.bind_some,h1,s90,Option.bind_some,h2]
    rfl
   | true =>
    cases h3:Zs m.to with
    | false =>
     unfold G10
     rw [Yq,if_neg (show ¬ (cop .lss m.kind 1)=true by simp only [CQ]; omega),if_neg (show ¬ (cop .gtr m.kind 17)=true by simp only [CQ]; omega),s89,Option.bind_some,h1,s90,Option.bind_some,h2,s90,Option.bind_some,h3]
     rfl
    | true =>
     rcases (show m.kind=1∨m.kind=2∨m.kind=3∨m.kind=4∨m.kind=5∨m.kind=6∨m.kind=7∨m.kind=8∨m.kind=9∨m.kind=10∨m.kind=11∨m.kind=12∨m.kind=13∨m.kind=14∨m.kind=15∨m.kind=16∨m.kind=17 by omega) with e | e | e | e | e | e | e | e | e | e | e | e | e | e | e | e | e
     ·rw [Zxw m h e h1 h2 h3,e]; rfl
     ·rw [Zyp m h e h1 h2 h3,e]; rfl
     ·rw [ZwU m h e h1 h2 h3,e]; rfl
     ·rw [Zwm m h e h1 h2 h3,e]; rfl
     ·rw [ZwM m h e h1 h2 h3,e]; rfl
     ·rw [Zxb m h e h1 h2 h3,e]; rfl
     ·rw [Zyf m h e h1 h2 h3,e]; rfl
     ·rw [ZwK m h e h1 h2 h3,e]; rfl
     ·rw [Zx8 m h e h1 h2 h3,e]; rfl
     ·rw [Ztg m h e h1 h2 h3,e]; rfl
     ·rw [ZsV m h e h1 h2 h3,e]; rfl
     ·rw [ZtI m h e h1 h2 h3,e]; rfl
     ·rw [ZuA m h e h1 h2 h3,e]; rfl
     ·rw [Zuv m h e h1 h2 h3,e]; rfl
     ·rw [ZuX m h e h1 h2 h3,e]; rfl
     ·rw [ZtX m h e h1 h2 h3,e]; rfl
     ·rw [Ztx m h e h1 h2 h3,e]; rfl
 ·unfold G10
  rw [show kindOk m.kind=false from decide_eq_false hk,Yq]
  by_cases hl:m.kind < 1
  ·rw [if_pos (show (cop .lss m.kind 1)=true by simp only [CQ]; omega)]; rfl
  ·rw [if_neg (show ¬ (cop .lss m.kind 1)=true by simp only [CQ]; omega),if_pos (show (cop .gtr m.kind 17)=true by simp only [CQ]; omega)]; rfl
theorem s56 (m:Msg) (h:m.Fits):g56 m.kind m.view m.frm m.to m.round m.region m.slot m.op.core m.op.op m.op.part m.err m.settled m.req.id.core m.req.id.op m.req.id.part m.req.call.kind m.req.call.slot m.req.call.dest m.req.call.core m.req.call.mask m.req.call.object m.req.call.bits m.req.call.level m.req.call.offset m.req.call.count m.req.call.index m.req.call.addr m.req.region m.req.width m.req.src.id.core m.req.src.id.op m.req.src.id.part (Zb m.req.src.path) m.req.src.cap.kind m.req.src.cap.base m.req.src.cap.bits m.req.src.cap.rights m.req.src.cap.width m.req.src.cap.level m.req.src.cap.device (Zb m.ids) (m.nodes.map Js) (Za m.cores) (m.moves.map Jt) m.base m.next.number (Za m.next.members) (Za m.next.owners) (m.state.slots.map Zg) (m.state.pending.map ZM) (m.state.marks.map Zj) (m.state.answers.map ZS) (m.state.entries.map Zd) (Zb m.state.commits) m.report.core m.report.view.number (Za m.report.view.members) (Za m.report.view.owners) (m.report.state.slots.map Zg) (m.report.state.pending.map ZM) (m.report.state.marks.map Zj) (m.report.state.answers.map ZS) (m.report.state.entries.map Zd) (Zb m.report.state.commits) m.report.ready m.report.next.number (Za m.report.next.members) (Za m.report.next.owners) (m.report.proposal.slots.map Zg) (m.report.proposal.pending.map ZM) (m.report.proposal.marks.map Zj) (m.report.proposal.answers.map ZS) (m.report.proposal.entries.map Zd) (Zb m.report.proposal.commits)=some (KF m):=Zwy m h
end Go.Proofs.YtljejgmcgddppaaGreat
end

section
namespace Go.Proofs.YtljejgmcgddppaaGreat
open Go Go.AM
set_option linter.unusedSimpArgs false
set_option linter.unusedVariables false
set_option maxRecDepth 100000
theorem Zib {α:Type} {F:Nat→LL→Int→Option LL} (l:List α) (f:α→LL) (hn:l.length < 2 ^ 63)
  (step:∀ (k i:Nat) (hi:i < l.length),F (k+1) ((l.take i).flatMap f) (i:Int)=F k ((l.take i).flatMap f++f l[i]) ((i+1:Nat):Int))
  (last:∀ (k:Nat) (acc:LL) (i:Nat),l.length≤i→F (k+1) acc (i:Int)=some acc):F Zx [] 0=some (l.flatMap f):=by
 have key:∀ (j i fuel:Nat),l.length≤i+j→j < fuel→F fuel ((l.take i).flatMap f) (i:Int)=some (l.flatMap f):=by
  intro j
  induction j with
  | zero =>
   intro i fuel h hf
   obtain ⟨q,rfl⟩:∃ q,fuel=q+1:=⟨fuel - 1,by omega⟩
   rw [last q _ i (by omega),List.take_of_length_le (by omega)]
  | succ j ih =>
   intro i fuel h hf
   obtain ⟨q,rfl⟩:∃ q,fuel=q+1:=⟨fuel - 1,by omega⟩
   by_cases hi:i < l.length
   ·have e:(l.take i).flatMap f++f l[i]=(l.take (i+1)).flatMap f:=by
     rw [List.take_add_one,List.getElem?_eq_getElem hi,Option.toList_some,List.flatMap_append,List.flatMap_singleton]
    rw [step q i hi,e]
    exact ih (i+1) q (by omega) (by omega)
   ·rw [last q _ i (by omega),List.take_of_length_le (by omega)]
 exact key l.length 0 Zx (by omega) (by have:=JK hn; omega)
theorem Zcu {α:Type} (f:α→List AV) (l:List α):l.flatMap (fun x=>[f x])=l.map f:=by
 induction l with
 | nil => rfl
 | cons a r ih => rw [List.flatMap_cons, ih, List.map_cons]; rfl
theorem Zmy {α:Type} (f:α→LL) (n:Nat) (h:∀ x,(f x).length≤1):∀ (l:List α),l.length≤n→(l.flatMap f).length≤n
 | [], _ => Nat.zero_le _
 | a :: r, hl => by
  have:=Zmy f (n - 1) h r (by simp at hl; omega)
  have:=h a
  simp only [List.flatMap_cons,List.length_append]
  simp only [List.length_cons] at hl
  omega
theorem Zp {a b:LL} {k:Nat} (h:a.length+b.length≤4096) (hk:k≤10000):Z8 a b k:=by
 unfold Z8 JJ
 have:(a.length+b.length) * (k+1)≤4096 * 10001:=Nat.mul_le_mul h (by omega)
 omega
theorem s53 (l:List Id) (h:l.length≤64):g53 (Zb l)=some (Zb l):=by
 rw [ZuN]
 exact Ze (Zp (by rw [ZY]; simp; omega) (by omega)) _
theorem ZzL (l:List Id) (h:l.length≤64):Zya (Zb l)=some (Zb l):=by
 rw [ZqU]
 refine Ziy (fun hn=>?_) ?_
 ·rw [if_pos rfl,hn]
 ·rw [if_neg Bool.false_ne_true]
  exact Ze (Zp (by rw [ZY]; simp; omega) (by omega)) _
theorem s30 (n:Y5) (h:n.path.length≤64):g30 n.id.core n.id.op n.id.part (Zb n.path) n.cap.kind n.cap.base n.cap.bits n.cap.rights n.cap.width n.cap.level n.cap.device=some (ZfR n):=by
 rw [ZsQ,s53 _ h]; rfl
theorem s64 (n:Y5) (h:n.path.length≤64):g64 n.id.core n.id.op n.id.part (Zb n.path) n.cap.kind n.cap.base n.cap.bits n.cap.rights n.cap.width n.cap.level n.cap.device=some (ZfR n):=by
 rw [ZsE,ZzL _ h]; rfl
def Zri (v:View):List AV:=[I v.number,.slice false 1 (Za v.members),.slice false 1 (Za v.owners)]
def Zp3 (r:Report):List AV:=[I r.core]++Zri r.view++Zl5 r.state++[B r.ready]++Zri r.next++Zl5 r.proposal
def ZoI (m:Msg):List AV:=[I m.kind,I m.view,I m.frm,I m.to,I m.round,I m.region,I m.slot,I m.op.core,I m.op.op,I m.op.part,I m.err,B m.settled]++ZM m.req++[.slice false 3 (Zb m.ids),.slice false 11 (m.nodes.map Js),.slice false 1 (Za m.cores),.slice false 2 (m.moves.map Jt),I m.base]++Zri m.next++Zl5 m.state++Zp3 m.report
theorem Zgt {γ:Type} {l:List Msg} {i:Nat} (h:i < l.length) (k:Qt2→Option γ):Zl (l.map ZoI) (i:Int) hs0 k=k (Zm4 l[i]):=J4 (f:=ZoI) (sh:=hs0) (v:=Zm4) (fun _=>rfl) h k
theorem s37 (l:List Msg) (hl:l.length < 2 ^ 63) (hf:∀ m∈l,m.Fits):g37 (l.map ZoI) (l.map ZoI)=some true:=by
 rw [Zuj,if_neg (by simp [cop])]
 have:=ZL (F:=fun k i=>Zk4 k (l.map ZoI) (l.map ZoI) i) (n:=l.length) (fin:=some true) (bad:=some false) (fun _=>true) hl 0 (by omega)
  (fun k i _ hi=>by
   show Zk4 (k+1) _ _ _=_
   rw [Zkk,List.length_map,if_pos (ZX hi)]
   refine (Zgt hi _).trans ?_
   refine (Zgt hi _).trans ?_
   simp only [Zm4,d2,d4,d8,d16]
   have hm:=hf l[i] (List.getElem_mem hi)
   rw [s62 l[i] l[i] hm hm,Option.bind_some,ZkX,ZQ hi hl]
   rfl)
  (fun k i hi=>by show Zk4 (k+1) _ _ _=_; rw [Zkk,List.length_map,if_neg (ZZ hi)])
 refine this.trans ?_
 rw [if_pos (by simp)]
structure ZaC (l:List Jp):Prop where
 len:l.length≤70
 path:∀ s∈l,s.node.path.length≤20
end Go.Proofs.YtljejgmcgddppaaGreat
end

section
namespace Go.Proofs.YtljejgmcgddppaaGreat
open Go Go.AM
set_option linter.unusedSimpArgs false
set_option linter.unusedVariables false
set_option maxRecDepth 100000
theorem Yg {α:Type} (f:α→List AV) (g:α→α) (l:List α) (i o:Nat) (c:List AV) (h:∀ x,l[i]? = some x→setCells (f x) o c=f (g x)):Zy (l.map f) i o c=(l.modify i g).map f:=by
 unfold Zy
 refine List.ext_getElem? fun j=>?_
 rw [List.getElem?_modify,List.getElem?_map,List.getElem?_map,List.getElem?_modify]
 cases hj:l[j]? with
 | none => rfl
 | some x =>
  by_cases hij:i=j
  ·subst hij
   simp [h x hj]
  ·simp [hij]
theorem Zl9 {α:Type} (l:List α) (i:Nat):l.modify i (fun x=>x)=l:=by
 refine List.ext_getElem? fun j=>?_
 rw [List.getElem?_modify]
 cases l[j]? <;> simp
theorem ZnC {α:Type} (f:α→List AV) (l:List α) (i o:Nat) (c:List AV) (h:∀ x,l[i]? = some x→setCells (f x) o c=f x):Zy (l.map f) i o c=l.map f:=by
 rw [Yg f (fun x=>x) l i o c h,Zl9]
theorem ZuC {i n:Nat} (h:i < n):((i:Int) < (n:Int)):=by omega
theorem s16 (l:List Jp) (h:ZaC l):g16 (l.map Zg)=some (l.map Zg):=by
 rw [Zt1]
 have hn:l.length < 2 ^ 63:=by have:=h.len; omega
 refine (Zib (F:=fun k acc i=>ZkM k (l.map Zg) acc i) l (fun r=>[Zg r]) hn (fun k i hi=>?_) (fun k acc i hi=>?_)).trans (by rw [Zcu])
 ·show ZkM (k+1) _ _ _=_
  rw [Zi2,List.length_map,if_pos (ZX hi)]
  refine (ZN hi _).trans ?_
  simp only [Yd,d2,d4,d8,d16]
  have hp:=h.path l[i] (List.getElem_mem hi)
  rw [s30 l[i].node (by omega),Option.bind_some]
  refine (ZN hi _).trans ?_
  refine (ZN hi _).trans ?_
  refine (Ze (Zp ?_ (by omega)) _).trans ?_
  ·rw [Zcu]
   have:=h.len
   simp only [List.length_map,List.length_take,List.length_append,List.length_cons,List.length_nil]
   omega
  ·rw [ZQ hi hn]
   rfl
 ·show ZkM (k+1) _ _ _=_
  rw [Zi2,List.length_map,if_neg (ZZ hi)]
theorem s63 (l:List Jp) (h:ZaC l):g63 (l.map Zg)=some (l.map Zg):=by
 rw [ZtE]
 refine Ziy (fun hn=>?_) ?_
 ·rw [if_pos rfl,hn]
 ·rw [if_neg Bool.false_ne_true]
  refine Ze (Zp (by have:=h.len; simp; omega) (by omega)) _
theorem s38 (l:List Jp) (h:ZaC l):g38 (l.map Zg)=some (l.map Zg):=by
 rw [ZuS,s63 l h,Option.bind_some,List.length_map]
 have hn:l.length < 2 ^ 63:=by have:=h.len; omega
 have:=ZL (F:=fun k i=>Zif k (l.map Zg) (l.length:Int) i) (n:=l.length) (fin:=some (l.map Zg)) (bad:=none) (fun _=>true) hn 0 (by omega)
  (fun k i _ hi=>by
   show Zif (k+1) _ _ _=_
   rw [ZjY,if_pos (ZX hi),List.length_map]
   have hin:=ZuC hi
   refine (Ze (by omega) _).trans ?_
   refine (Ze hin _).trans ?_
   refine (ZN hi _).trans ?_
   simp only [Yd,d2,d4,d8,d16]
   have hp:=h.path l[i] (List.getElem_mem hi)
   rw [s64 l[i].node (by omega),Option.bind_some]
   refine (Ze (by omega) _).trans ?_
   refine (Ze hin _).trans ?_
   refine (Ze (by omega) _).trans ?_
   refine (Ze hin _).trans ?_
   rw [ZQ hi hn]
   refine Eq.trans ?_ (if_pos trivial).symm
   refine congrArg (fun x=>Zif k x (l.length:Int) ((i+1:Nat):Int)) ?_
   refine ZnC Zg l _ 0 (Js l[i].node) fun x hx=>?_
   have hx':l[i]=x:=by
    rw [Int.toNat_natCast,List.getElem?_eq_getElem hi] at hx
    exact Option.some.inj hx
   rw [hx']
   rfl)
  (fun k i hi=>by show Zif (k+1) _ _ _=_; rw [ZjY,if_neg (ZZ hi)])
 refine this.trans ?_
 rw [if_pos (by simp)]
def Zgg (s:Jp):Bool:=if (cop .neq s.op 0)=true then true else !((cop .eql s.lock.core 0)&&((cop .eql s.lock.op 0)&&((cop .eql s.lock.part 0)&&true)))
theorem s71 (s:Jp):g71 s.node.id.core s.node.id.op s.node.id.part (Zb s.node.path) s.node.cap.kind s.node.cap.base s.node.cap.bits s.node.cap.rights s.node.cap.width s.node.cap.level s.node.cap.device s.op s.lock.core s.lock.op s.lock.part=some (Zgg s):=by
 rw [ZuZ,Zgg]
 split <;> rfl
theorem s20 (s:Jp):g20 s.node.id.core s.node.id.op s.node.id.part (Zb s.node.path) s.node.cap.kind s.node.cap.base s.node.cap.bits s.node.cap.rights s.node.cap.width s.node.cap.level s.node.cap.device s.op s.lock.core s.lock.op s.lock.part=some (Zgg s):=by
 rw [Zvg,Zgg]
 split <;> rfl
def Zst (op:Int) (s:Jp):Jp:={ s with op:=op }
theorem JD {γ:Type} {l:List Jp} {v:Int} (h0:0≤v) (h:v.toNat < l.length) (k:ShsT Zc2→Option γ):Zl (l.map Zg) v Zc2 k=k (Yd l[v.toNat]):=by
 have e:v=((v.toNat:Nat):Int):=by omega
 have:=ZN h k
 rwa [← e] at this
theorem Ztc (acc:List Jp) (i:Nat) (op:Int):Zy (acc.map Zg) i 11 [AV.val (.int .i64 op)]=(acc.modify i (Zst op)).map Zg:=Yg Zg (Zst op) acc i 11 _ fun _ _=>rfl
end Go.Proofs.YtljejgmcgddppaaGreat
end
