/- End23, H11a, H11b, H12a, H12d, H18a, H18b, H18c, H18d, H18e, H18f, H18g, H18h, H18i, H18j, H24a, H24c: texts of the proof, put together. -/
import Derived.Test.YtljejgmcgddppaaGreatRows
import Derived.Test.YtljejgmcgddppaaGreatChecked
import Derived.Test.YtljejgmcgddppaaGreatM4
import Derived.JoinedOf
import Derived.JoinedAt
import Derived.RowKit3
import Derived.KernelRfl
import Derived.Test.YtljejgmcgddppaaGreatF23e

section
namespace Go.Proofs.YtljejgmcgddppaaGreat
open Go Go.AM
set_option maxRecDepth 100000
theorem behind : ∃ ws, behindMainWord (wordsSigns Tryz.prog.initOrder.toList) = "cut".toList :: ws := by
 have h:Tryz.prog.initOrder.toList=_:=String.toList_ofList (l:=_)
 rw [h]
 exact Zhp (by kernel_rfl) (by kernel_rfl) (by kernel_rfl) (by kernel_rfl) (by kernel_rfl) (by kernel_rfl)
theorem Zs5:Tryz.prog.mayEnter=true:=behind.elim fun _ h=>Go.AM.enters_of h (by kernel_rfl) (by kernel_rfl) (by kernel_rfl)
theorem Zxa:Tryz.prog.liftsFinal=false:=behind.elim fun _ h=>Go.AM.final_of h
theorem ZuG:Tryz.prog.make=some .cut:=behind.elim fun _ h=>Go.AM.make_of h
theorem ZzJ:laidOutB Tryz.prog=true:=by kernel_rfl
theorem Znw:ownKnob Tryz.prog.godebug=none:=by kernel_rfl
theorem Zaj {d:Nat} {cs:List AV} (h:TyR Tryz.prog (d+1) 3 cs):∃ z,cs = [I z]:=by
 simp only [TyR,Tryz.underlying3] at h
 obtain ⟨z,h,_⟩:=h
 exact ⟨z,h⟩
theorem ZmF {d:Nat} {cs:List AV} (h:TyR Tryz.prog (d+1) 4 cs):∃ z,cs = [B z]:=by
 simp only [TyR,Tryz.underlying4] at h
 exact h
theorem arg_int {x:AV} (h:Zb2 Tryz.prog 12 3 x):∃ z,x=I z:=by
 simp only [Zb2,Tryz.underlying3] at h
 obtain ⟨z,hz⟩:=Zaj h.2
 exact ⟨z,by simpa using hz⟩
def Zh2 (z:Int):List AV:=[I z]
def Za (l:List Int):List (List AV):=l.map Zh2
structure Id where
 core:Int
 op:Int
 part:Int
 deriving DecidableEq
def idc (i:Id):List AV:=[I i.core,I i.op,I i.part]
def Zb (l:List Id):List (List AV):=l.map idc
theorem ZdB {α β:Type} {f:α→β} {p:α→Prop} : ∀ (xs:List β),(∀ x∈xs,∃ a,x=f a∧p a)→∃ l:List α,xs=l.map f∧∀ a∈l,p a
 | [], _ => ⟨[], rfl, by simp⟩
 | x :: xs, h => by
  obtain ⟨a,h1,h2⟩:=h x (by simp)
  obtain ⟨l,h3,h4⟩:=ZdB xs fun y hy=>h y (by simp [hy])
  refine ⟨a :: l,by rw [h1,h3]; rfl,fun b hb=>?_⟩
  rcases List.mem_cons.1 hb with rfl | hb
  ·exact h2
  ·exact h4 b hb
theorem Zs1:Tryz.prog.cellsOf 3=1:=by kernel_rfl
theorem Zop {x:AV} (h:Zb2 Tryz.prog 12 22 x):∃ l,x = .slice false 1 (Za l)∧l.length≤maxLen:=by
 simp only [Zb2,Tryz.underlying22] at h
 have hh:=h.2
 rw [TyR] at hh
 simp only [Tryz.underlying22,Zs1] at hh
 obtain ⟨xs,h1,h2,h3⟩:=hh
 obtain ⟨l,rfl,h5⟩:=ZdB (f:=Zh2) (p:=fun _=>True) xs fun y hy=>by
  have:=h3 y hy
  rw [TyR] at this
  simp only [Tryz.underlying3] at this
  obtain ⟨z,rfl,hz⟩:=this
  exact ⟨z,rfl,trivial⟩
 exact ⟨l,by simpa [Za] using h1,by simpa using h2⟩
def Zr5:List TypeId:=[3,22,23,28,37,54]
theorem Zwz (t:TypeId) (h:Zr5.contains t=true):Zb3 Tryz.prog 12 t=true∧t < Tryz.prog.types.size∧Tryz.prog.readableRec t=true:=by
 have h2:Zr5.all (fun t=>Zb3 Tryz.prog 12 t&&decide (t < Tryz.prog.types.size)&&Tryz.prog.readableRec t)=true:=by kernel_rfl
 rw [List.all_eq_true] at h2
 have:=h2 t (by simpa using h)
 simpa [and_assoc] using this
end Go.Proofs.YtljejgmcgddppaaGreat
end

section
namespace Go.Proofs.YtljejgmcgddppaaGreat
open Go Go.AM
set_option linter.unusedSimpArgs false
set_option linter.unusedVariables false
set_option maxRecDepth 100000
def VO (k b:Int):Bool:=decide ((k=1∧6≤b∧b≤40)∨(k=2∧12≤b∧b≤40)∨(k=3∧b=12)∨(k=4∧b=6)∨(k=5∧b=10)∨(k=6∧b=16))
theorem ZAe (k b:Int):ZxO k b=some (VO k b):=by
 rw [Zrt]
 repeat' split
 all_goals (refine congrArg some ?_; rw [Zj]; simp only [VO,CQ] at *; omega)
def ZhX (k:Int):Int:=if k=3 then 12 else if k=4 then 6 else if k=5 then 10 else if k=6 then 16 else 0
theorem Zzz (k:Int):ZxT k=some (ZhX k):=by
 rw [ZqD]
 simp only [CQ,ZhX]
 repeat' split
 all_goals first | rfl | omega
theorem s85 (k b:Int):g85 k b=some (VO k b):=by
 rw [ZuS]
 simp only [Zzz,Option.bind_some]
 repeat' split
 all_goals (refine congrArg some ?_; rw [Zj]; simp only [VO,CQ] at *; first | omega | (rcases (by omega:k=3∨k=4∨k=5∨k=6) with rfl | rfl | rfl | rfl <;> simp [ZhX]))
def ZdJ (w l:Int):Bool:=decide ((w=32∧0≤l∧l≤1)∨(w=39∧0≤l∧l≤2))
theorem Zy7 (w l:Int):Zxl w l=some (ZdJ w l):=by
 rw [ZpV]
 repeat' split
 all_goals (refine congrArg some ?_; rw [Zj]; simp only [ZdJ,CQ] at *; omega)
theorem s86 (w l:Int):g86 w l=some (ZdJ w l):=by
 rw [Ztm]
 repeat' split
 all_goals (refine congrArg some ?_; rw [Zj]; simp only [ZdJ,CQ] at *; omega)
def Ve (a b:Int):Bool:=decide (6≤b∧b≤40∧0≤a∧a % 2 ^ b.toNat=0∧a+2 ^ b.toNat≤1099511627776)
theorem ZjN {b:Int} (h:b≤40):(2:Int) ^ b.toNat≤1099511627776:=by
 have:=Zms (m:=b.toNat) (n:=40) (by omega)
 have e:(2:Int) ^ 40=1099511627776:=by decide
 omega
theorem ZiI {a:Int} {n:Nat} (h:0≤a):iop .rem .i64 a (2 ^ n)=a % 2 ^ n:=Int.tmod_eq_emod_of_nonneg h
theorem Ztx {b:Int} (h:b≤40):iop .sub .i64 1099511627776 (2 ^ b.toNat)=1099511627776 - 2 ^ b.toNat:=by
 have:=ZjN h
 have:=YD b.toNat
 exact ZbJ (by omega) (by omega)
theorem ZAt (a b:Int):Zwt a b=some (Ve a b):=by
 have hp:=YD b.toNat
 rw [ZrW]
 by_cases h1:6≤b∧b≤40∧0≤a
 ·obtain ⟨h1,h2,h3⟩:=h1
  have hs:iop .shl .i64 1 b=2 ^ b.toNat:=Zsh (by omega)
  have hr:Zw ((0:Int)≤b)=fun (x:Option Bool)=>x:=funext fun x=>Zf (by omega) x
  have hn:Zw (((2:Int) ^ b.toNat)≠0)=fun (x:Option Bool)=>x:=funext fun x=>Zf (by omega) x
  simp only [hs,hr,hn,ZiI h3,Ztx h2]
  repeat' split
  all_goals (refine congrArg some ?_; rw [Zj]; simp only [Ve,CQ] at *; omega)
 ·have hf:Ve a b=false:=by simp only [Ve,decide_eq_false_iff_not]; omega
  rw [hf]
  repeat' split
  all_goals first | rfl | (exfalso; simp only [CQ] at *; omega)
theorem Zvj (a b:Int):ZpG a b=some (Ve a b):=by
 have hp:=YD b.toNat
 rw [ZpX]
 by_cases h1:6≤b∧b≤40∧0≤a
 ·obtain ⟨h1,h2,h3⟩:=h1
  have hw:IntKind.wrap .u64 b=b:=KV (by omega) (by omega)
  have hs:iop .shl .i64 1 b=2 ^ b.toNat:=Zsh (by omega)
  have hr:Zw ((0:Int)≤b)=fun (x:Option Bool)=>x:=funext fun x=>Zf (by omega) x
  have hn:Zw (((2:Int) ^ b.toNat)≠0)=fun (x:Option Bool)=>x:=funext fun x=>Zf (by omega) x
  have h40:=ZjN h2
  simp only [hw,hs,hr,hn,ZiI h3]
  repeat' split
  all_goals (refine congrArg some ?_; rw [Zj]; simp only [Ve,CQ] at *; first | omega | (rw [Kh (by omega) (by omega)] at *; omega))
 ·have hf:Ve a b=false:=by simp only [Ve,decide_eq_false_iff_not]; omega
  rw [hf]
  repeat' split
  all_goals first | rfl | (exfalso; simp only [CQ] at *; omega)
def ZbR (a b:Int):Int:=if Ve a b=true then a+2 ^ b.toNat else 0
theorem Zfw {a b:Int} (h:Ve a b=true):6≤b∧b≤40∧0≤a∧a % 2 ^ b.toNat=0∧a+2 ^ b.toNat≤1099511627776:=by simpa [Ve] using h
theorem ZqM {a b:Int} (h:Ve a b=true):iop .add .i64 a (iop .shl .i64 1 b)=ZbR a b:=by
 obtain ⟨h1,h2,h3,h4,h5⟩:=Zfw h
 have:=YD b.toNat
 rw [Zsh (by omega),Kh (by omega) (by omega),ZbR,if_pos h]
def Zt9 (a b c d:Int):Bool:=Ve a b&&Ve c d&&decide (a < ZbR c d)&&decide (c < ZbR a b)
def inB (a b c d:Int):Bool:=Ve a b&&Ve c d&&decide (a≤c)&&decide (ZbR c d≤ZbR a b)
structure Cap where
 kind:Int
 base:Int
 bits:Int
 rights:Int
 width:Int
 level:Int
 device:Bool
theorem Zzc (k b s r w l:Int) (d:Bool):Zw6 k b s r w l d=some (b,s):=ZrA ..
theorem s81 (k b s r w l:Int) (d:Bool):g81 k b s r w l d=some (b,s):=ZsC ..
def VJ (c:Cap):Bool:=VO c.kind c.bits&&Ve c.base c.bits&&decide (0≤c.rights∧c.rights≤7)&&(if c.kind=3 then ZdJ c.width c.level else decide (c.width=0∧c.level=0))&&(!c.device||decide (c.kind=1)||decide (c.kind=2))
theorem Zz6 (k b s r w l:Int) (d:Bool):Zyp k b s r w l d=some (VJ ⟨k,b,s,r,w,l,d⟩):=by
 rw [ZqE]
 simp only [ZAe,Zzc,ZAt,Zy7,Option.bind_some]
 repeat' split
 all_goals (refine congrArg some ?_; rw [Zj]; simp only [VJ,CQ] at *; grind)
theorem s84 (k b s r w l:Int) (d:Bool):g84 k b s r w l d=some (VJ ⟨k,b,s,r,w,l,d⟩):=by
 rw [Zuo]
 simp only [s85,s81,Zvj,s86,Option.bind_some]
 repeat' split
 all_goals (refine congrArg some ?_; rw [Zj]; simp only [VJ,CQ] at *; grind)
end Go.Proofs.YtljejgmcgddppaaGreat
end

section
namespace Go.Proofs.YtljejgmcgddppaaGreat
open Go Go.AM
set_option linter.unusedSimpArgs false
set_option linter.unusedVariables false
set_option maxRecDepth 100000
def ZlT (obj a sz bits r w l:Int) (d:Bool) (j:Nat):List AV:=[I obj,I (a+j * sz),I bits,I r,I w,I l,B d]
def Y1 (obj a sz bits r w l:Int) (d:Bool) (n:Nat):List (List AV):=(List.range n).map (ZlT obj a sz bits r w l d)
theorem Zfi (obj a sz bits r w l:Int) (d:Bool) (n:Nat):Y1 obj a sz bits r w l d (n+1)=Y1 obj a sz bits r w l d n++[ZlT obj a sz bits r w l d n]:=by
 simp [Y1,List.range_succ]
theorem ZbV (obj a sz bits r w l:Int) (d:Bool) (n:Nat):(Y1 obj a sz bits r w l d n).length=n:=by simp [Y1]
theorem Zbm {n:Nat} (h:n < 2 ^ 64):n < Zx:=by
 have:Zx=1208925819614629174706176:=rfl
 omega
theorem ZlS {a b:List (List AV)} {k:Nat} (h:(a.length+b.length) * (k+1)≤1099511627776):Ja a b k:=h
theorem Zod {k b:Int} (h:VO k b=true):6≤b∧b≤40:=by
 simp only [VO,decide_eq_true_eq] at h
 omega
theorem Zqb {c:Cap} (h:VJ c=true):Ve c.base c.bits=true:=by
 simp only [VJ,Bool.and_eq_true] at h
 exact h.1.1.1.2
def ZcC (c:Cap) (obj bits level width off cnt:Int):Int:=
 if VJ c=false∨c.kind≠1 then 5
 else if iop .and .i64 c.rights 2=0 then 8
 else if VO obj bits=false∨(obj=3∧ZdJ width level=false)∨cnt < 1∨8 < cnt∨off < 0 then 1
 else if c.device=true∧obj≠1∧obj≠2 then 5
 else if off % 2 ^ bits.toNat≠0∨2 ^ c.bits.toNat - cnt * 2 ^ bits.toNat < off∨(obj=1∧c.bits≤bits) then 6
 else 0
def Wq (c:Cap) (obj bits level width off cnt:Int):List (List AV):=
 if ZcC c obj bits level width off cnt=0 then Y1 obj (c.base+off) (2 ^ bits.toNat) bits c.rights (if obj=3 then width else 0) (if obj=3 then level else 0) c.device cnt.toNat else []
theorem Zh1 {c:Cap} {obj bits level width off cnt e:Int} (he:e≠0) (h:ZcC c obj bits level width off cnt=e) :
  some (([] : List (List AV)),e)=some (Wq c obj bits level width off cnt,ZcC c obj bits level width off cnt):=by
 simp only [Wq,h,if_neg he]
theorem Zog {c:Cap} {obj bits off cnt:Int} (hc:VJ c=true) (hs:VO obj bits=true) (h1:1≤cnt) (h2:cnt≤8) (h3:0≤off) :
  iop .shl .i64 1 bits=2 ^ bits.toNat∧iop .rem .i64 off (2 ^ bits.toNat)=off % 2 ^ bits.toNat∧iop .shl .i64 1 c.bits=2 ^ c.bits.toNat∧iop .mul .i64 cnt (2 ^ bits.toNat)=cnt * 2 ^ bits.toNat∧
   iop .sub .i64 (2 ^ c.bits.toNat) (cnt * 2 ^ bits.toNat)=2 ^ c.bits.toNat - cnt * 2 ^ bits.toNat∧(2:Int) ^ bits.toNat≠0∧0≤bits∧0≤c.bits∧0≤c.base∧c.base+2 ^ c.bits.toNat≤1099511627776∧
   0 < (2:Int) ^ bits.toNat∧(2:Int) ^ bits.toNat≤1099511627776∧(2:Int) ^ bits.toNat≤cnt * 2 ^ bits.toNat∧0 < (2:Int) ^ c.bits.toNat∧bits≤40∧c.bits≤40:=by
 obtain ⟨b1,b2⟩:=Zod hs
 obtain ⟨r1,r2,r3,r4,r5⟩:=Zfw (Zqb hc)
 have p1:=YD bits.toNat
 have p2:=YD c.bits.toNat
 have q1:=ZjN b2
 have q2:=ZjN r2
 have m1:cnt * 2 ^ bits.toNat≤8 * 2 ^ bits.toNat:=Int.mul_le_mul_of_nonneg_right (by omega) (by omega)
 have m2:1 * 2 ^ bits.toNat≤cnt * 2 ^ bits.toNat:=Int.mul_le_mul_of_nonneg_right (by omega) (by omega)
 refine ⟨Zsh (by omega),ZiI (by omega),Zsh (by omega),ZtH (by omega) (by omega),ZhK (by omega) (by omega),by omega,by omega,by omega,r3,r5,p1,q1,by omega,p2,b2,r2⟩
theorem Zib {γ:Type} {p:Prop} {_:Decidable p} (h:p):(Zw p:Option γ→Option γ)=fun x=>x:=funext fun x=>Zf h x
theorem ZwH:∃ f,Zx=f+1+1+1+1+1+1:=⟨Zx - 6,by decide⟩
end Go.Proofs.YtljejgmcgddppaaGreat
end

section
namespace Go.Proofs.YtljejgmcgddppaaGreat
open Go Go.AM
set_option linter.unusedSimpArgs false
set_option linter.unusedVariables false
set_option maxRecDepth 100000
abbrev ZyY:List Sh:=[.int .i64,.int .i64,.int .i64]
def Wo (i:Id):Bool:=decide (0≤i.core∧i.core < 32∧1≤i.op∧i.op≤1073741824∧0≤i.part∧i.part < 8)
theorem Zum (a b c:Int):ZrN a b c=some (Wo ⟨a,b,c⟩):=by
 rw [ZrP]
 repeat' split
 all_goals (refine congrArg some ?_; rw [Zj]; simp only [Wo,CQ] at *; omega)
theorem ZAa (a:Int):Zu9 a=some false:=by
 rw [Zr4]
 simp [cop]
def ZpA (a b:Int):Int:=if a < b then -1 else if b < a then 1 else 0
theorem Zz9 (a b:Int):Zup a b=some (ZpA a b):=by
 rw [Zr3]
 simp only [ZAa,Option.bind_some,Bool.false_eq_true,if_false]
 by_cases h1:a < b
 ·rw [if_pos (by simp only [CQ]; omega),ZpA,if_pos h1]
 ·by_cases h2:b < a
  ·rw [if_neg (by simp only [CQ]; omega),if_pos (by simp only [CQ]; omega),ZpA,if_neg h1,if_pos h2]
  ·rw [if_neg (by simp only [CQ]; omega),if_neg (by simp only [CQ]; omega),ZpA,if_neg h1,if_neg h2]
def WU (x y z:Int):Int:=if x≠0 then x else if y≠0 then y else z
theorem ZAp (x y z:Int):ZwZ (((([] : List (List AV))++[[AV.val (.int .i64 x)]])++[[AV.val (.int .i64 y)]])++[[AV.val (.int .i64 z)]])=some (WU x y z):=by
 obtain ⟨f,hf⟩:=ZwH
 have e:(((([] : List (List AV))++[[AV.val (.int .i64 x)]])++[[AV.val (.int .i64 y)]])++[[AV.val (.int .i64 z)]]) = [Zh2 x,Zh2 y,Zh2 z]:=rfl
 have e1:iop .add .i64 0 1=1:=by decide
 have e2:iop .add .i64 1 1=2:=by decide
 have e3:iop .add .i64 2 1=3:=by decide
 have hl:(([Zh2 x,Zh2 y,Zh2 z] : List (List AV)).length:Int)=3:=rfl
 rw [ZrL,e,hf,hl]
 rw [Za9,if_pos (by decide),Zag (sh:=[.int .i64]) (cs:=Zh2 x) (r:=x) _ (by decide) rfl rfl]
 by_cases hx:x=0
 ·rw [if_neg (by simp only [CQ]; omega),e1,Za9,if_pos (by decide),Zag (sh:=[.int .i64]) (cs:=Zh2 y) (r:=y) _ (by decide) rfl rfl]
  by_cases hy:y=0
  ·rw [if_neg (by simp only [CQ]; omega),e2,Za9,if_pos (by decide),Zag (sh:=[.int .i64]) (cs:=Zh2 z) (r:=z) _ (by decide) rfl rfl]
   by_cases hz:z=0
   ·rw [if_neg (by simp only [CQ]; omega),e3,Za9,if_neg (by decide)]
    simp [WU,hx,hy,hz]
   ·rw [if_pos (by simp only [CQ]; omega)]
    simp [WU,hx,hy]
  ·rw [if_pos (by simp only [CQ]; omega)]
   simp [WU,hx,hy]
 ·rw [if_pos (by simp only [CQ]; omega)]
  simp [WU,hx]
theorem ZAi (a b c d e f:Int):Zwb a b c d e f=some (WU (ZpA a d) (ZpA b e) (ZpA c f)):=by
 rw [Zrm]
 simp only [Zz9,Option.bind_some,ZAp]
def Zsd (a b c d e f:Int):Bool:=decide (a < d∨(a=d∧(b < e∨(b=e∧c < f))))
theorem ZyE (a b c d e f:Int):Zvg a b c d e f=some (Zsd a b c d e f):=by
 rw [ZrS,ZAi,Option.bind_some]
 refine congrArg some ?_
 rw [Zj]
 simp only [Zsd,CQ,ZpA,WU]
 repeat' split
 all_goals omega
theorem Z0 (l:List Id):(Zb l).length=l.length:=by simp [Zb]
theorem Zi1 (l:List Id) (n:Nat):(Zb l).take n=Zb (l.take n):=by simp [Zb,List.map_take]
theorem ZtT {l:List Id} {i:Nat} {x:Id} (h:l[i]? = some x):(Zb l)[i]? = some (idc x):=by simp [Zb,h]
theorem WZ {γ:Type} {l:List Id} {i:Int} {x:Id} (k:(Int×Int×Int)→Option γ) (h0:0≤i) (h:l[i.toNat]? = some x):Zi (Zb l) i ZyY k=k (x.core,x.op,x.part):=
 Zag (sh:=ZyY) (r:=(x.core,x.op,x.part)) k h0 (ZtT h) rfl
theorem Ye (a b c d e f:Int):((cop .eql a d&&(cop .eql b e&&(cop .eql c f&&true)))=true)↔((⟨a,b,c⟩:Id)=⟨d,e,f⟩):=by
 simp only [CQ,Id.mk.injEq,and_true]
theorem ZAx {l:List Id} (hl:l.length < 2 ^ 63) (a b c:Int):∀ (j i fuel:Nat),l.length=i+j→j < fuel→∃ r,Zg6 fuel (Zb l) a b c (l.length:Int) i=some r∧(0≤r↔(⟨a,b,c⟩:Id)∈l.drop i):=by
 intro j
 induction j with
 | zero =>
  intro i fuel h hf
  obtain ⟨f,rfl⟩:∃ f,fuel=f+1:=⟨fuel - 1,by omega⟩
  refine ⟨-1,by rw [ZgL,if_neg (by simp only [CQ]; omega)],?_⟩
  rw [List.drop_of_length_le (by omega)]
  simp
 | succ j ih =>
  intro i fuel h hf
  obtain ⟨f,rfl⟩:∃ f,fuel=f+1:=⟨fuel - 1,by omega⟩
  have hi:i < l.length:=by omega
  have hat:l[(i:Int).toNat]? = some l[i]:=by simp
  have a4:iop .add .i64 i 1=((i+1:Nat):Int):=by rw [Kh (by omega) (by omega)]; omega
  rw [ZgL,if_pos (by simp only [CQ]; omega),WZ _ (by omega) hat,a4,List.drop_eq_getElem_cons hi]
  by_cases he:(⟨a,b,c⟩:Id)=l[i]
  ·refine ⟨i,?_,?_⟩
   ·rw [if_pos]
    rw [Ye]
    exact he
   ·rw [List.mem_cons]
    exact ⟨fun _=>.inl he,fun _=>by omega⟩
  ·obtain ⟨r,h1,h2⟩:=ih (i+1) f (by omega) (by omega)
   refine ⟨r,?_,?_⟩
   ·rw [if_neg,h1]
    rw [Ye]
    exact he
   ·rw [h2,List.mem_cons]
    simp [he]
theorem s76 (l:List Id) (hl:l.length < 2 ^ 63) (a b c:Int):g76 (Zb l) a b c=some (l.contains ⟨a,b,c⟩):=by
 obtain ⟨r,h1,h2⟩:=ZAx hl a b c l.length 0 Zx (by omega) (Zbm (by omega))
 rw [Ztj,ZpW,Z0]
 have h1':Zg6 Zx (Zb l) a b c (l.length:Int) 0=some r:=h1
 rw [h1',Option.bind_some]
 refine congrArg some ?_
 rw [Zj]
 simp only [CQ,List.contains_iff_mem]
 rw [List.drop_zero] at h2
 exact h2
structure Y4 where
 id:Id
 path:List Id
 cap:Cap
def VC (n:Y4) (i:Nat):Bool:=match n.path[i]? with | none=>true | some x=>Wo x&&decide (x≠n.id)&&!(n.path.take i).contains x
def ZF (n:Y4):Bool:=Wo n.id&&VJ n.cap&&decide (n.path.length≤8)&&(List.range n.path.length).all (VC n)
theorem Zy4 (n:Y4) (hl:n.path.length < 2 ^ 63):∀ (j i fuel:Nat),n.path.length=i+j→j < fuel→
  Zi8 fuel n.id.core n.id.op n.id.part (Zb n.path) n.cap.kind n.cap.base n.cap.bits n.cap.rights n.cap.width n.cap.level n.cap.device (Zb n.path) (n.path.length:Int) i=some ((List.range' i j).all (VC n)):=by
 intro j
 induction j with
 | zero =>
  intro i fuel h hf
  obtain ⟨f,rfl⟩:∃ f,fuel=f+1:=⟨fuel - 1,by omega⟩
  rw [Zhf,if_neg (by simp only [CQ]; omega)]
  rfl
 | succ j ih =>
  intro i fuel h hf
  obtain ⟨f,rfl⟩:∃ f,fuel=f+1:=⟨fuel - 1,by omega⟩
  have hi:i < n.path.length:=by omega
  have hat:n.path[(i:Int).toNat]? = some n.path[i]:=by simp
  have a4:iop .add .i64 i 1=((i+1:Nat):Int):=by rw [Kh (by omega) (by omega)]; omega
  have hp:VC n i=(Wo n.path[i]&&decide (n.path[i]≠n.id)&&!(n.path.take i).contains n.path[i]):=by
   unfold VC
   rw [List.getElem?_eq_getElem hi]
  have hlt:(n.path.take i).length < 2 ^ 63:=by rw [List.length_take]; omega
  rw [Zhf,if_pos (by simp only [CQ]; omega),WZ _ (by omega) hat,a4,List.range'_succ,List.all_cons,hp]
  simp only [Zum,Option.bind_some]
  cases h1:Wo n.path[i] with
  | false => simp
  | true =>
   rw [if_neg (by simp)]
   by_cases h2:n.path[i]=n.id
   ·rw [if_pos (by rw [Ye]; exact h2)]
    simp [h2]
   ·rw [if_neg (by rw [Ye]; exact h2),Zf (by omega),Zf (by rw [Z0]; omega),Int.toNat_natCast,Zi1,s76 _ hlt,Option.bind_some]
    cases h3:(n.path.take i).contains n.path[i] with
    | true => simp
    | false =>
     rw [if_neg (by simp)]
     have:=ih (i+1) f (by omega) (by omega)
     rw [this]
     simp [h2]
theorem Zua (n:Y4) (hl:n.path.length < 2 ^ 63):Zpw n.id.core n.id.op n.id.part (Zb n.path) n.cap.kind n.cap.base n.cap.bits n.cap.rights n.cap.width n.cap.level n.cap.device=some (ZF n):=by
 rw [Zqs]
 simp only [Zum,Zz6,Option.bind_some,Z0]
 unfold ZF
 cases h1:Wo n.id with
 | false => simp [show (⟨n.id.core, n.id.op, n.id.part⟩ : Id) = n.id from rfl, h1]
 | true =>
  cases h2:VJ n.cap with
  | false => simp [show (⟨n.id.core, n.id.op, n.id.part⟩ : Id) = n.id from rfl, h1, show (⟨n.cap.kind, n.cap.base, n.cap.bits, n.cap.rights, n.cap.width, n.cap.level, n.cap.device⟩ : Cap) = n.cap from rfl, h2]
  | true =>
   rw [if_neg (by simp),if_neg (by simp)]
   by_cases h3:n.path.length≤8
   ·rw [if_neg (by simp only [CQ]; omega)]
    have:=Zy4 n hl n.path.length 0 Zx (by omega) (Zbm (by omega))
    have e:(List.range' 0 n.path.length)=List.range n.path.length:=(List.range_eq_range' ..).symm
    rw [e] at this
    refine this.trans ?_
    simp [h3]
   ·rw [if_pos (by simp only [CQ]; omega)]
    simp [h3]
end Go.Proofs.YtljejgmcgddppaaGreat
end

section
namespace Go.Proofs.YtljejgmcgddppaaGreat
open Go Go.AM
set_option linter.unusedSimpArgs false
set_option linter.unusedVariables false
set_option maxRecDepth 100000
theorem s88 (a b c:Int):g88 a b c=some (Wo ⟨a,b,c⟩):=by
 rw [ZtK]
 repeat' split
 all_goals (refine congrArg some ?_; rw [Zj]; simp only [Wo,CQ] at *; omega)
theorem l18 {l:List Id} (hl:l.length < 2 ^ 63) (a b c:Int):∀ (j i fuel:Nat),l.length=i+j→j < fuel→ZnL fuel (Zb l) a b c i=some ((l.drop i).contains ⟨a,b,c⟩):=by
 intro j
 induction j with
 | zero =>
  intro i fuel h hf
  obtain ⟨f,rfl⟩:∃ f,fuel=f+1:=⟨fuel - 1,by omega⟩
  rw [ZjD,if_neg (by simp only [CQ,Z0]; omega),List.drop_of_length_le (by omega)]
  rfl
 | succ j ih =>
  intro i fuel h hf
  obtain ⟨f,rfl⟩:∃ f,fuel=f+1:=⟨fuel - 1,by omega⟩
  have hi:i < l.length:=by omega
  have hat:l[(i:Int).toNat]? = some l[i]:=by simp
  have a4:iop .add .i64 i 1=((i+1:Nat):Int):=by rw [Kh (by omega) (by omega)]; omega
  rw [ZjD,if_pos (by simp only [CQ,Z0]; omega),WZ _ (by omega) hat,a4,List.drop_eq_getElem_cons hi,List.contains_cons]
  by_cases he:l[i]=(⟨a,b,c⟩:Id)
  ·rw [if_pos (by rw [Ye]; exact he)]
   simp [he]
  ·rw [if_neg (by rw [Ye]; exact he),ih (i+1) f (by omega) (by omega)]
   have:((⟨a,b,c⟩:Id) == l[i])=false:=by simp; exact fun h=>he h.symm
   rw [this,Bool.false_or]
theorem s18 (l:List Id) (hl:l.length < 2 ^ 63) (a b c:Int):g18 (Zb l) a b c=some (l.contains ⟨a,b,c⟩):=by
 have:=l18 hl a b c l.length 0 Zx (by omega) (Zbm (by omega))
 rw [ZsM]
 exact this
def ZbK (n:Y4) (i:Nat):Bool:=match n.path[i]? with | none=>true | some x=>Wo x&&!(n.path.take i).contains x
theorem ZkW (n:Y4):ZF n=(Wo n.id&&VJ n.cap&&decide (n.path.length≤8)&&(!n.path.contains n.id&&(List.range n.path.length).all (ZbK n))):=by
 unfold ZF
 congr 1
 rw [Zj]
 simp only [Bool.and_eq_true,List.all_eq_true,List.mem_range,Bool.not_eq_true',← Bool.not_eq_true,List.contains_iff_mem]
 constructor
 ·intro h
  refine ⟨fun hc=>?_,fun i hi=>?_⟩
  ·obtain ⟨i,hi⟩:=List.mem_iff_getElem?.1 hc
   have:=h i (List.getElem?_eq_some_iff.1 hi).1
   unfold VC at this
   rw [hi] at this
   simp at this
  ·have:=h i hi
   unfold VC at this
   unfold ZbK
   rw [List.getElem?_eq_getElem hi] at this ⊢
   simp only [Bool.and_eq_true] at this ⊢
   exact ⟨this.1.1,this.2⟩
 ·intro ⟨h1,h2⟩ i hi
  have:=h2 i hi
  unfold ZbK at this
  unfold VC
  rw [List.getElem?_eq_getElem hi] at this ⊢
  simp only [Bool.and_eq_true,decide_eq_true_eq] at this ⊢
  exact ⟨⟨this.1,fun he=>h1 (he ▸ List.getElem_mem hi)⟩,this.2⟩
theorem l87 (n:Y4) (hl:n.path.length < 2 ^ 63):∀ (j i fuel:Nat),n.path.length=i+j→j < fuel→
  ZoT fuel n.id.core n.id.op n.id.part (Zb n.path) n.cap.kind n.cap.base n.cap.bits n.cap.rights n.cap.width n.cap.level n.cap.device i=some ((List.range' i j).all (ZbK n)):=by
 intro j
 induction j with
 | zero =>
  intro i fuel h hf
  obtain ⟨f,rfl⟩:∃ f,fuel=f+1:=⟨fuel - 1,by omega⟩
  rw [Zj2,if_neg (by simp only [CQ,Z0]; omega)]
  rfl
 | succ j ih =>
  intro i fuel h hf
  obtain ⟨f,rfl⟩:∃ f,fuel=f+1:=⟨fuel - 1,by omega⟩
  have hi:i < n.path.length:=by omega
  have hat:n.path[(i:Int).toNat]? = some n.path[i]:=by simp
  have a4:iop .add .i64 i 1=((i+1:Nat):Int):=by rw [Kh (by omega) (by omega)]; omega
  have hp:ZbK n i=(Wo n.path[i]&&!(n.path.take i).contains n.path[i]):=by
   unfold ZbK
   rw [List.getElem?_eq_getElem hi]
  have hlt:(n.path.take i).length < 2 ^ 63:=by rw [List.length_take]; omega
  rw [Zj2,if_pos (by simp only [CQ,Z0]; omega),WZ _ (by omega) hat,a4,List.range'_succ,List.all_cons,hp]
  simp only [s88,Option.bind_some]
  cases h1:Wo n.path[i] with
  | false => simp
  | true =>
   rw [if_neg (by simp),Zf (by omega),Zf (by rw [Z0]; omega),WZ _ (by omega) hat,Int.toNat_natCast,Zi1,s18 _ hlt,Option.bind_some]
   cases h3:(n.path.take i).contains n.path[i] with
   | true => simp
   | false =>
    rw [if_neg (by simp)]
    have:=ih (i+1) f (by omega) (by omega)
    rw [this]
    simp
theorem s87 (n:Y4) (hl:n.path.length < 2 ^ 63):g87 n.id.core n.id.op n.id.part (Zb n.path) n.cap.kind n.cap.base n.cap.bits n.cap.rights n.cap.width n.cap.level n.cap.device=some (ZF n):=by
 rw [ZtB,ZkW]
 simp only [s88,s84,Option.bind_some,Z0,s18 _ hl]
 cases h1:Wo n.id with
 | false => simp [show (⟨n.id.core, n.id.op, n.id.part⟩ : Id) = n.id from rfl, h1]
 | true =>
  cases h2:VJ n.cap with
  | false => simp [show (⟨n.id.core, n.id.op, n.id.part⟩ : Id) = n.id from rfl, h1, show (⟨n.cap.kind, n.cap.base, n.cap.bits, n.cap.rights, n.cap.width, n.cap.level, n.cap.device⟩ : Cap) = n.cap from rfl, h2]
  | true =>
   rw [if_neg (by simp),if_neg (by simp)]
   by_cases h3:n.path.length≤8
   ·rw [if_neg (by simp only [CQ]; omega)]
    cases h4:n.path.contains n.id with
    | true => simp
    | false =>
     rw [if_neg (by simp)]
     have:=l87 n hl n.path.length 0 Zx (by omega) (Zbm (by omega))
     have e:(List.range' 0 n.path.length)=List.range n.path.length:=(List.range_eq_range' ..).symm
     rw [e] at this
     refine this.trans ?_
     simp [h3]
   ·rw [if_pos (by simp only [CQ]; omega)]
    simp [h3]
theorem l46 {l m:List Id} (hl:l.length < 2 ^ 63) (hm:l.length=m.length):∀ (j i fuel:Nat),l.length=i+j→j < fuel→ZoL fuel (Zb l) (Zb m) i=some (decide (l.drop i=m.drop i)):=by
 intro j
 induction j with
 | zero =>
  intro i fuel h hf
  obtain ⟨f,rfl⟩:∃ f,fuel=f+1:=⟨fuel - 1,by omega⟩
  rw [ZjM,if_neg (by simp only [CQ,Z0]; omega),List.drop_of_length_le (by omega),List.drop_of_length_le (by omega)]
  rfl
 | succ j ih =>
  intro i fuel h hf
  obtain ⟨f,rfl⟩:∃ f,fuel=f+1:=⟨fuel - 1,by omega⟩
  have hi:i < l.length:=by omega
  have hi':i < m.length:=by omega
  have hat:l[(i:Int).toNat]? = some l[i]:=by simp
  have hat':m[(i:Int).toNat]? = some m[i]:=by simp
  have a4:iop .add .i64 i 1=((i+1:Nat):Int):=by rw [Kh (by omega) (by omega)]; omega
  rw [ZjM,if_pos (by simp only [CQ,Z0]; omega),WZ _ (by omega) hat,WZ _ (by omega) hat',a4,List.drop_eq_getElem_cons hi,List.drop_eq_getElem_cons hi']
  by_cases he:l[i]=m[i]
  ·rw [if_neg (by rw [Bool.not_eq_true',← Bool.not_eq_true,Ye]; exact fun h=>h he),ih (i+1) f (by omega) (by omega)]
   simp only [he,List.cons.injEq,true_and]
  ·rw [if_pos (by rw [Bool.not_eq_true',← Bool.not_eq_true,Ye]; exact he)]
   simp only [List.cons.injEq,he,false_and,decide_false]
theorem s46 (l m:List Id) (hl:l.length < 2 ^ 63) (hm:m.length < 2 ^ 63):g46 (Zb l) (Zb m)=some (decide (l=m)):=by
 rw [Ztg,Z0,Z0]
 by_cases h:l.length=m.length
 ·rw [if_neg (by simp only [CQ]; omega)]
  have:=l46 hl h l.length 0 Zx (by omega) (Zbm (by omega))
  rw [List.drop_zero,List.drop_zero] at this
  exact this
 ·rw [if_pos (by simp only [CQ]; omega)]
  have:¬ l=m:=fun he=>h (by rw [he])
  simp [this]
end Go.Proofs.YtljejgmcgddppaaGreat
end

section
namespace Go.Proofs.YtljejgmcgddppaaGreat
open Go Go.AM
set_option linter.unusedSimpArgs false
set_option linter.unusedVariables false
set_option maxRecDepth 100000
theorem JL {n:Nat} (h:n < 2 ^ 63):n+1 < Zx:=by
 have:(2:Nat) ^ 64≤Zx:=by decide
 omega
theorem ZR {i n:Nat} (h:i < n) (hn:n < 2 ^ 63):iop .add .i64 (i:Int) 1=((i+1:Nat):Int):=by
 rw [Kh (by omega) (by omega)]; omega
theorem ZZ {i n:Nat} (h:i < n):(cop .lss (i:Int) (n:Int))=true:=by
 simp only [CQ]; omega
theorem ZY {i n:Nat} (h:n≤i):¬ (cop .lss (i:Int) (n:Int))=true:=by
 simp only [CQ]; omega
theorem ZL {γ:Type} {F:Nat→Int→Option γ} {n:Nat} {fin bad:Option γ} (p:Nat→Bool) (hn:n < 2 ^ 63) (i0:Nat) (hi0:i0≤1)
  (step:∀ k i:Nat,i0≤i→i < n→F (k+1) (i:Int)=if p i=true then F k ((i+1:Nat):Int) else bad)
  (last:∀ k i:Nat,n≤i→F (k+1) (i:Int)=fin):F Zx (i0:Int)=if (List.range' i0 (n - i0)).all p=true then fin else bad:=by
 have key:∀ (j i fuel:Nat),i0≤i→n≤i+j→j < fuel→F fuel (i:Int)=if (List.range' i (n - i)).all p=true then fin else bad:=by
  intro j
  induction j with
  | zero =>
   intro i fuel h0 h hf
   obtain ⟨f,rfl⟩:∃ f,fuel=f+1:=⟨fuel - 1,by omega⟩
   rw [last f i (by omega),show n - i=0 by omega]
   rfl
  | succ j ih =>
   intro i fuel h0 h hf
   obtain ⟨f,rfl⟩:∃ f,fuel=f+1:=⟨fuel - 1,by omega⟩
   by_cases hi:i < n
   ·rw [step f i h0 hi,show n - i=(n - (i+1))+1 by omega,List.range'_succ,List.all_cons]
    cases hp:p i with
    | true => rw [if_pos rfl, ih (i + 1) f (by omega) (by omega) (by omega), Bool.true_and]
    | false => rw [if_neg Bool.false_ne_true, Bool.false_and, if_neg Bool.false_ne_true]
   ·rw [last f i (by omega),show n - i=0 by omega]
    rfl
 exact key n i0 Zx (Nat.le_refl _) (by omega) (by have:=JL hn; omega)
theorem YF {F:Nat→Int→Option Int} {n:Nat} (p:Nat→Bool) (hn:n < 2 ^ 63)
  (step:∀ k i:Nat,i < n→F (k+1) (i:Int)=if p i=true then some (i:Int) else F k ((i+1:Nat):Int))
  (last:∀ k i:Nat,n≤i→F (k+1) (i:Int)=some (-1)):∃ r,F Zx 0=some r∧cop .geq r 0=(List.range' 0 n).any p:=by
 have key:∀ (j i fuel:Nat),n≤i+j→j < fuel→∃ r,F fuel (i:Int)=some r∧cop .geq r 0=(List.range' i (n - i)).any p:=by
  intro j
  induction j with
  | zero =>
   intro i fuel h hf
   obtain ⟨f,rfl⟩:∃ f,fuel=f+1:=⟨fuel - 1,by omega⟩
   rw [last f i (by omega),show n - i=0 by omega]
   exact ⟨_,rfl,rfl⟩
  | succ j ih =>
   intro i fuel h hf
   obtain ⟨f,rfl⟩:∃ f,fuel=f+1:=⟨fuel - 1,by omega⟩
   by_cases hi:i < n
   ·rw [step f i hi,show n - i=(n - (i+1))+1 by omega,List.range'_succ,List.any_cons]
    cases hp:p i with
    | true =>
     rw [if_pos rfl,Bool.true_or]
     refine ⟨_,rfl,?_⟩
     simp only [CQ]
     omega
    | false => rw [if_neg Bool.false_ne_true, Bool.false_or]; exact ih (i + 1) f (by omega) (by omega)
   ·rw [last f i (by omega),show n - i=0 by omega]
    exact ⟨_,rfl,rfl⟩
 have:=key n 0 Zx (by omega) (by have:=JL hn; omega)
 simpa using this
def atB {α:Type} (q:α→Bool) (l:List α) (i:Nat):Bool:=match l[i]? with | some x=>q x | none=>true
theorem Jb {α:Type} (q:α→Bool) {l:List α} {i:Nat} (h:i < l.length):atB q l i=q l[i]:=by
 unfold atB
 rw [List.getElem?_eq_getElem h]
theorem ZeS {α:Type} (q:α→Bool) (l:List α):(List.range' 0 l.length).all (atB q l)=l.all q:=by
 rw [Zj,List.all_eq_true,List.all_eq_true]
 constructor
 ·intro h x hx
  obtain ⟨i,hi,rfl⟩:=List.getElem_of_mem hx
  have:=h i (by simp [List.mem_range',hi])
  rwa [Jb q hi] at this
 ·intro h i hi
  have hi':i < l.length:=by simpa [List.mem_range'] using hi
  rw [Jb q hi']
  exact h _ (List.getElem_mem hi')
theorem V3 {α:Type} (q:α→Bool) (l:List α):(List.range' 0 l.length).any (fun i=>!atB q l i) = !(l.all q):=by
 rw [← ZeS q l,List.any_eq_not_all_not]
 simp
def Vn {α:Type} (lt:α→α→Bool) (l:List α):Nat→Bool
 | 0 => true
 | j + 1 => match l[j]?, l[j + 1]? with | some a, some b => lt a b | _, _ => true
def KO {α:Type} (lt:α→α→Bool) (l:List α):Bool:=(List.range' 0 l.length).all (Vn lt l)
theorem Ke {α:Type} (lt:α→α→Bool) {l:List α} {j:Nat} (h:j+1 < l.length):Vn lt l (j+1)=lt l[j] l[j+1]:=by
 show (match l[j]?,l[j+1]? with | some a,some b=>lt a b | _,_=>true)=_
 rw [List.getElem?_eq_getElem h,List.getElem?_eq_getElem (show j < l.length by omega)]
theorem Ztu {α:Type} (lt:α→α→Bool) (l:List α):(List.range' 1 (l.length - 1)).all (Vn lt l)=KO lt l:=by
 unfold KO
 cases l with
 | nil => rfl
 | cons a r => rw [show (a :: r).length = ((a :: r).length - 1) + 1 from rfl, List.range'_succ, List.all_cons]; rfl
theorem Zqx {α:Type} (l:List α) (p q:α→Bool):l.all (fun i=>p i&&q i)=(l.all p&&l.all q):=by
 induction l with
 | nil => rfl
 | cons a r ih => simp only [List.all_cons, ih]; cases p a <;> cases q a <;> cases r.all p <;> rfl
theorem Zc7 {α:Type} (q:α→Bool) (lt:α→α→Bool) (l:List α):(List.range' 0 l.length).all (fun i=>atB q l i&&Vn lt l i)=(l.all q&&KO lt l):=by
 rw [Zqx,ZeS]; rfl
structure Call where
 kind:Int
 slot:Int
 dest:Int
 core:Int
 mask:Int
 object:Int
 bits:Int
 level:Int
 offset:Int
 count:Int
 index:Int
 addr:Int
structure Req where
 id:Id
 call:Call
 region:Int
 width:Int
 src:Y4
structure Jq where
 node:Y4
 op:Int
 lock:Id
structure YA where
 region:Int
 op:Id
structure Ans where
 op:Int
 err:Int
structure ZG where
 core:Int
 slot:Int
 node:Y4
structure ZiY where
 region:Int
 to:Int
structure View where
 number:Int
 members:List Int
 owners:List Int
structure State where
 slots:List Jq
 pending:List Req
 marks:List YA
 answers:List Ans
 entries:List ZG
 commits:List Id
structure Report where
 core:Int
 view:View
 state:State
 ready:Bool
 next:View
 proposal:State
def Ju (n:Y4):List AV:=[I n.id.core,I n.id.op,I n.id.part,.slice false 3 (Zb n.path),I n.cap.kind,I n.cap.base,I n.cap.bits,I n.cap.rights,I n.cap.width,I n.cap.level,B n.cap.device]
def ZM (r:Req):List AV:=[I r.id.core,I r.id.op,I r.id.part,I r.call.kind,I r.call.slot,I r.call.dest,I r.call.core,I r.call.mask,I r.call.object,I r.call.bits,I r.call.level,I r.call.offset,I r.call.count,I r.call.index,I r.call.addr,I r.region,I r.width,I r.src.id.core,I r.src.id.op,I r.src.id.part,.slice false 3 (Zb r.src.path),I r.src.cap.kind,I r.src.cap.base,I r.src.cap.bits,I r.src.cap.rights,I r.src.cap.width,I r.src.cap.level,B r.src.cap.device]
def Zg (s:Jq):List AV:=[I s.node.id.core,I s.node.id.op,I s.node.id.part,.slice false 3 (Zb s.node.path),I s.node.cap.kind,I s.node.cap.base,I s.node.cap.bits,I s.node.cap.rights,I s.node.cap.width,I s.node.cap.level,B s.node.cap.device,I s.op,I s.lock.core,I s.lock.op,I s.lock.part]
def Zk (m:YA):List AV:=[I m.region,I m.op.core,I m.op.op,I m.op.part]
def ZS (a:Ans):List AV:=[I a.op,I a.err]
def Jw (a:ZiY):List AV:=[I a.region,I a.to]
def Ze (e:ZG):List AV:=[I e.core,I e.slot,I e.node.id.core,I e.node.id.op,I e.node.id.part,.slice false 3 (Zb e.node.path),I e.node.cap.kind,I e.node.cap.base,I e.node.cap.bits,I e.node.cap.rights,I e.node.cap.width,I e.node.cap.level,B e.node.cap.device]
abbrev ZlB:List Sh:=[.int .i64,.int .i64,.int .i64,.slice 3,.int .i64,.int .i64,.int .i64,.int .i64,.int .i64,.int .i64,.bool]
abbrev ZqL:List Sh:=[.int .i64,.int .i64,.int .i64,.int .i64,.int .i64,.int .i64,.int .i64,.int .i64,.int .i64,.int .i64,.int .i64,.int .i64,.int .i64,.int .i64,.int .i64,.int .i64,.int .i64,.int .i64,.int .i64,.int .i64,.slice 3,.int .i64,.int .i64,.int .i64,.int .i64,.int .i64,.int .i64,.bool]
abbrev Zde:List Sh:=[.int .i64,.int .i64,.int .i64,.slice 3,.int .i64,.int .i64,.int .i64,.int .i64,.int .i64,.int .i64,.bool,.int .i64,.int .i64,.int .i64,.int .i64]
abbrev ZdH:List Sh:=[.int .i64,.int .i64,.int .i64,.int .i64,.int .i64,.slice 3,.int .i64,.int .i64,.int .i64,.int .i64,.int .i64,.int .i64,.bool]
def Zft (n:Y4):ShsT ZlB:=(n.id.core,n.id.op,n.id.part,Zb n.path,n.cap.kind,n.cap.base,n.cap.bits,n.cap.rights,n.cap.width,n.cap.level,n.cap.device)
def ZqF (r:Req):ShsT ZqL:=(r.id.core,r.id.op,r.id.part,r.call.kind,r.call.slot,r.call.dest,r.call.core,r.call.mask,r.call.object,r.call.bits,r.call.level,r.call.offset,r.call.count,r.call.index,r.call.addr,r.region,r.width,r.src.id.core,r.src.id.op,r.src.id.part,Zb r.src.path,r.src.cap.kind,r.src.cap.base,r.src.cap.bits,r.src.cap.rights,r.src.cap.width,r.src.cap.level,r.src.cap.device)
def Yd (s:Jq):ShsT Zde:=(s.node.id.core,s.node.id.op,s.node.id.part,Zb s.node.path,s.node.cap.kind,s.node.cap.base,s.node.cap.bits,s.node.cap.rights,s.node.cap.width,s.node.cap.level,s.node.cap.device,s.op,s.lock.core,s.lock.op,s.lock.part)
def J8 (e:ZG):ShsT ZdH:=(e.core,e.slot,e.node.id.core,e.node.id.op,e.node.id.part,Zb e.node.path,e.node.cap.kind,e.node.cap.base,e.node.cap.bits,e.node.cap.rights,e.node.cap.width,e.node.cap.level,e.node.cap.device)
theorem J6 {α γ:Type} {f:α→List AV} {sh:List Sh} {v:α→ShsT sh} (hf:∀ x,Znj sh (f x)=some (v x)) {l:List α} {i:Nat} (h:i < l.length) (k:ShsT sh→Option γ):Zi (l.map f) (i:Int) sh k=k (v l[i]):=by
 refine Zag k (by omega) (cs:=f l[i]) ?_ (hf _)
 rw [Int.toNat_natCast,List.getElem?_map,List.getElem?_eq_getElem h]
 rfl
theorem Yx {γ:Type} {l:List Y4} {i:Nat} (h:i < l.length) (k:ShsT ZlB→Option γ):Zi (l.map Ju) (i:Int) ZlB k=k (Zft l[i]):=J6 (fun _=>rfl) h k
theorem Yb {γ:Type} {l:List Req} {i:Nat} (h:i < l.length) (k:ShsT ZqL→Option γ):Zi (l.map ZM) (i:Int) ZqL k=k (ZqF l[i]):=J6 (fun _=>rfl) h k
theorem ZN {γ:Type} {l:List Jq} {i:Nat} (h:i < l.length) (k:ShsT Zde→Option γ):Zi (l.map Zg) (i:Int) Zde k=k (Yd l[i]):=J6 (fun _=>rfl) h k
theorem Zt {γ:Type} {l:List ZG} {i:Nat} (h:i < l.length) (k:ShsT ZdH→Option γ):Zi (l.map Ze) (i:Int) ZdH k=k (J8 l[i]):=J6 (fun _=>rfl) h k
theorem Je {γ:Type} {l:List YA} {i:Nat} (h:i < l.length) (k:(Int×Int×Int×Int)→Option γ):Zi (l.map Zk) (i:Int) [.int .i64,.int .i64,.int .i64,.int .i64] k=k (l[i].region,l[i].op.core,l[i].op.op,l[i].op.part):=J6 (sh:=[.int .i64,.int .i64,.int .i64,.int .i64]) (v:=fun x=>(x.region,x.op.core,x.op.op,x.op.part)) (fun _=>rfl) h k
theorem Yl {γ:Type} {l:List Ans} {i:Nat} (h:i < l.length) (k:(Int×Int)→Option γ):Zi (l.map ZS) (i:Int) [.int .i64,.int .i64] k=k (l[i].op,l[i].err):=J6 (sh:=[.int .i64,.int .i64]) (v:=fun x=>(x.op,x.err)) (fun _=>rfl) h k
theorem YP {γ:Type} {l:List ZiY} {i:Nat} (h:i < l.length) (k:(Int×Int)→Option γ):Zi (l.map Jw) (i:Int) [.int .i64,.int .i64] k=k (l[i].region,l[i].to):=J6 (sh:=[.int .i64,.int .i64]) (v:=fun x=>(x.region,x.to)) (fun _=>rfl) h k
theorem Wn {γ:Type} {l:List Id} {i:Nat} (h:i < l.length) (k:(Int×Int×Int)→Option γ):Zi (Zb l) (i:Int) [.int .i64,.int .i64,.int .i64] k=k (l[i].core,l[i].op,l[i].part):=J6 (f:=idc) (sh:=[.int .i64,.int .i64,.int .i64]) (v:=fun x=>(x.core,x.op,x.part)) (fun _=>rfl) h k
theorem ZW {γ:Type} {l:List Int} {i:Nat} (h:i < l.length) (k:Int→Option γ):Zi (Za l) (i:Int) [.int .i64] k=k l[i]:=J6 (f:=Zh2) (sh:=[.int .i64]) (v:=fun x=>x) (fun _=>rfl) h k
theorem Kj (i:Id):(⟨i.core,i.op,i.part⟩:Id)=i:=rfl
end Go.Proofs.YtljejgmcgddppaaGreat
end

section
namespace Go.Proofs.YtljejgmcgddppaaGreat
open Go Go.AM
set_option linter.unusedSimpArgs false
set_option linter.unusedVariables false
set_option maxRecDepth 100000
def Zs (z:Int):Bool:=decide (0≤z∧z < 32)
def Z1 (z:Int):Bool:=decide (0≤z∧z < 16)
def Jl (z:Int):Bool:=decide (0≤z∧z < 64)
def ZcD (z:Int):Bool:=decide (0≤z∧z≤99)
def Za2 (i:Id):Bool:=Wo i&&decide (i.part=0)
theorem s67 (z:Int):g67 z=some (Zs z):=by
 rw [ZuL]
 repeat' split
 all_goals (refine congrArg some ?_; rw [Zj]; simp only [Zs,CQ] at *; omega)
theorem s90 (z:Int):g90 z=some (Zs z):=by
 rw [Zu2]
 repeat' split
 all_goals (refine congrArg some ?_; rw [Zj]; simp only [Zs,CQ] at *; omega)
theorem Zvk (z:Int):Zsj z=some (Z1 z):=by
 rw [Zp7]
 repeat' split
 all_goals (refine congrArg some ?_; rw [Zj]; simp only [Z1,CQ] at *; omega)
theorem ZtG (z:Int):Zre z=some (Z1 z):=by
 rw [ZrH]
 repeat' split
 all_goals (refine congrArg some ?_; rw [Zj]; simp only [Z1,CQ] at *; omega)
theorem ZyR (z:Int):ZvM z=some (Jl z):=by
 rw [Zq2]
 repeat' split
 all_goals (refine congrArg some ?_; rw [Zj]; simp only [Jl,CQ] at *; omega)
theorem Zyz (z:Int):ZvT z=some (ZcD z):=by
 rw [Zqr]
 repeat' split
 all_goals (refine congrArg some ?_; rw [Zj]; simp only [ZcD,CQ] at *; omega)
theorem s93 (z:Int):g93 z=some (ZcD z):=by
 rw [Zu0]
 repeat' split
 all_goals (refine congrArg some ?_; rw [Zj]; simp only [ZcD,CQ] at *; omega)
theorem ZvO (i:Id):Zse i.core i.op i.part=some (Za2 i):=by
 rw [ZqT,Zum,Option.bind_some,Kj]
 repeat' split
 all_goals (refine congrArg some ?_; rw [Zj]; simp only [Za2,CQ] at *; grind)
theorem s92 (i:Id):g92 i.core i.op i.part=some (Za2 i):=by
 rw [Zte,s88,Option.bind_some,Kj]
 repeat' split
 all_goals (refine congrArg some ?_; rw [Zj]; simp only [Za2,CQ] at *; grind)
theorem Zzl {l m:List Id} (hl:l.length < 2 ^ 63) (h:l.length=m.length):Zc6 Zx (Zb l) (Zb m) (l.length:Int) 0=some (decide (l=m)):=by
 have:=ZL (F:=fun k i=>Zc6 k (Zb l) (Zb m) (l.length:Int) i) (n:=l.length) (fin:=some true) (bad:=some false) (fun i=>decide (l[i]? = m[i]?)) hl 0 (by omega)
  (fun k i _ hi=>by
   have hm:i < m.length:=by omega
   show Zc6 (k+1) _ _ _ _=_
   rw [Zhh,if_pos (ZZ hi),Wn hi,Wn hm,ZR hi hl]
   rw [List.getElem?_eq_getElem hi,List.getElem?_eq_getElem hm]
   by_cases he:l[i]=m[i]
   ·rw [if_neg (by rw [Bool.not_eq_true',← Bool.not_eq_true,Ye]; exact fun h=>h he),if_pos (by simp [he])]
   ·rw [if_pos (by rw [Bool.not_eq_true',← Bool.not_eq_true,Ye]; exact he),if_neg (by simp [he])])
  (fun k i hi=>by show Zc6 (k+1) _ _ _ _=_; rw [Zhh,if_neg (ZY hi)])
 refine this.trans ?_
 have e:(List.range' 0 (l.length - 0)).all (fun i=>decide (l[i]? = m[i]?))=decide (l=m):=by
  rw [Zj,List.all_eq_true,decide_eq_true_eq]
  constructor
  ·intro hh
   refine List.ext_getElem? fun i=>?_
   by_cases hi:i < l.length
   ·exact of_decide_eq_true (hh i (by simp [List.mem_range',hi]))
   ·rw [List.getElem?_eq_none (by omega),List.getElem?_eq_none (by omega)]
  ·rintro rfl i _
   exact decide_eq_true rfl
 rw [e]
 cases decide (l=m) <;> rfl
theorem ZzM (l m:List Id) (hl:l.length < 2 ^ 63):Zym (Zb l) (Zb m)=some (decide (l=m)):=by
 rw [Zrs,Z0,Z0]
 by_cases h:l.length=m.length
 ·rw [if_neg (by simp [cop,h]),Zzl hl h]
 ·rw [if_pos (by simp [cop]; omega)]
  have:¬ l=m:=fun he=>h (by rw [he])
  simp [this]
def KT (a b:Y4):Bool:=decide (a.id=b.id)&&decide (a.cap.kind=b.cap.kind∧a.cap.base=b.cap.base∧a.cap.bits=b.cap.bits∧a.cap.rights=b.cap.rights∧a.cap.width=b.cap.width∧a.cap.level=b.cap.level∧a.cap.device=b.cap.device)&&decide (a.path=b.path)
theorem Ze7 (a b:Cap):(((cop .eql a.kind b.kind)&&((cop .eql a.base b.base)&&((cop .eql a.bits b.bits)&&((cop .eql a.rights b.rights)&&((cop .eql a.width b.width)&&((cop .eql a.level b.level)&&((a.device == b.device)&&true)))))))=true)↔(a.kind=b.kind∧a.base=b.base∧a.bits=b.bits∧a.rights=b.rights∧a.width=b.width∧a.level=b.level∧a.device=b.device):=by
 simp only [CQ,beq_iff_eq,and_true]
theorem Zz4 (a b:Y4) (ha:a.path.length < 2 ^ 63):Zry a.id.core a.id.op a.id.part (Zb a.path) a.cap.kind a.cap.base a.cap.bits a.cap.rights a.cap.width a.cap.level a.cap.device b.id.core b.id.op b.id.part (Zb b.path) b.cap.kind b.cap.base b.cap.bits b.cap.rights b.cap.width b.cap.level b.cap.device=some (KT a b):=by
 rw [ZqB,ZzM _ _ ha,Option.bind_some]
 unfold KT
 refine Zo (fun h=>?_) fun h=>?_
 ·rw [Ye] at h
  refine Zo (fun h2=>?_) fun h2=>?_
  ·rw [Ze7] at h2
   rw [decide_eq_true (show a.id=b.id from h),decide_eq_true h2]; rfl
  ·rw [Ze7] at h2
   rw [decide_eq_true (show a.id=b.id from h),decide_eq_false h2]; rfl
 ·rw [Ye] at h
  rw [decide_eq_false (show ¬ a.id=b.id from h)]; rfl
theorem Zu6 (a b:Y4) (ha:a.path.length < 2 ^ 63) (hb:b.path.length < 2 ^ 63):g19 a.id.core a.id.op a.id.part (Zb a.path) a.cap.kind a.cap.base a.cap.bits a.cap.rights a.cap.width a.cap.level a.cap.device b.id.core b.id.op b.id.part (Zb b.path) b.cap.kind b.cap.base b.cap.bits b.cap.rights b.cap.width b.cap.level b.cap.device=some (KT a b):=by
 rw [Ztd,s46 _ _ ha hb,Option.bind_some]
 unfold KT
 refine Zo (fun h=>?_) fun h=>?_
 ·rw [Ye] at h
  refine Zo (fun h2=>?_) fun h2=>?_
  ·rw [Ze7] at h2
   rw [decide_eq_true (show a.id=b.id from h),decide_eq_true h2]; rfl
  ·rw [Ze7] at h2
   rw [decide_eq_true (show a.id=b.id from h),decide_eq_false h2]; rfl
 ·rw [Ye] at h
  rw [decide_eq_false (show ¬ a.id=b.id from h)]; rfl
def ZX:Y4:=⟨⟨0,0,0⟩,[],⟨0,0,0,0,0,0,false⟩⟩
theorem ZqX (a:Y4) (ha:a.path.length < 2 ^ 63):Zry a.id.core a.id.op a.id.part (Zb a.path) a.cap.kind a.cap.base a.cap.bits a.cap.rights a.cap.width a.cap.level a.cap.device 0 0 0 ([] : List (List AV)) 0 0 0 0 0 0 false=some (KT a ZX):=Zz4 a ZX ha
theorem ZyK (a:Y4) (ha:a.path.length < 2 ^ 63):g19 a.id.core a.id.op a.id.part (Zb a.path) a.cap.kind a.cap.base a.cap.bits a.cap.rights a.cap.width a.cap.level a.cap.device 0 0 0 ([] : List (List AV)) 0 0 0 0 0 0 false=some (KT a ZX):=Zu6 a ZX ha (by simp [ZX])
def KS (r:Req):Bool:=Za2 r.id&&decide (1≤r.call.kind∧r.call.kind≤6)&&Z1 r.region&&decide (r.width=32∨r.width=39)&&(if r.call.kind=1 then KT r.src ZX else ZF r.src)
theorem Zyw (r:Req) (hr:r.src.path.length < 2 ^ 63):ZvR r.id.core r.id.op r.id.part r.call.kind r.call.slot r.call.dest r.call.core r.call.mask r.call.object r.call.bits r.call.level r.call.offset r.call.count r.call.index r.call.addr r.region r.width r.src.id.core r.src.id.op r.src.id.part (Zb r.src.path) r.src.cap.kind r.src.cap.base r.src.cap.bits r.src.cap.rights r.src.cap.width r.src.cap.level r.src.cap.device=some (KS r):=by
 rw [Zqi]
 simp only [ZvO,Zvk,ZqX _ hr,Zua _ hr,Option.bind_some]
 repeat' split
 all_goals (refine congrArg some ?_; rw [Zj]; simp only [KS,CQ] at *; grind)
theorem s91 (r:Req) (hr:r.src.path.length < 2 ^ 63):g91 r.id.core r.id.op r.id.part r.call.kind r.call.slot r.call.dest r.call.core r.call.mask r.call.object r.call.bits r.call.level r.call.offset r.call.count r.call.index r.call.addr r.region r.width r.src.id.core r.src.id.op r.src.id.part (Zb r.src.path) r.src.cap.kind r.src.cap.base r.src.cap.bits r.src.cap.rights r.src.cap.width r.src.cap.level r.src.cap.device=some (KS r):=by
 rw [ZtS]
 simp only [s92,ZtG,ZyK _ hr,s87 _ hr,Option.bind_some]
 repeat' split
 all_goals (refine congrArg some ?_; rw [Zj]; simp only [KS,CQ] at *; grind)
end Go.Proofs.YtljejgmcgddppaaGreat
end

section
namespace Go.Proofs.YtljejgmcgddppaaGreat
open Go Go.AM
set_option linter.unusedSimpArgs false
set_option linter.unusedVariables false
set_option maxRecDepth 100000
theorem ZfN {γ:Type} {F:Nat→Int→Option γ} {n:Nat} {miss:γ} (hit:Nat→γ) (p:Nat→Bool) (hn:n < 2 ^ 63)
  (step:∀ k i:Nat,i < n→F (k+1) (i:Int)=if p i=true then some (hit i) else F k ((i+1:Nat):Int))
  (last:∀ k i:Nat,n≤i→F (k+1) (i:Int)=some miss) :
  (∃ i,i < n∧p i=true∧(∀ j,j < i→p j=false)∧F Zx 0=some (hit i))∨((∀ j,j < n→p j=false)∧F Zx 0=some miss):=by
 have key:∀ (j i fuel:Nat),n≤i+j→j < fuel→(∃ m,i≤m∧m < n∧p m=true∧(∀ j,i≤j→j < m→p j=false)∧F fuel (i:Int)=some (hit m))∨((∀ j,i≤j→j < n→p j=false)∧F fuel (i:Int)=some miss):=by
  intro j
  induction j with
  | zero =>
   intro i fuel h hf
   obtain ⟨f,rfl⟩:∃ f,fuel=f+1:=⟨fuel - 1,by omega⟩
   exact .inr ⟨fun j h1 h2=>by omega,last f i (by omega)⟩
  | succ j ih =>
   intro i fuel h hf
   obtain ⟨f,rfl⟩:∃ f,fuel=f+1:=⟨fuel - 1,by omega⟩
   by_cases hi:i < n
   ·rw [step f i hi]
    cases hp:p i with
    | true => exact .inl ⟨i, Nat.le_refl _, hi, hp, fun j h1 h2 => by omega, if_pos rfl⟩
    | false =>
     rw [if_neg Bool.false_ne_true]
     rcases ih (i+1) f (by omega) (by omega) with ⟨m,h1,h2,h3,h4,h5⟩ | ⟨h1,h2⟩
     ·refine .inl ⟨m,by omega,h2,h3,fun j h6 h7=>?_,h5⟩
      by_cases he:j=i
      ·rw [he]; exact hp
      ·exact h4 j (by omega) h7
     ·refine .inr ⟨fun j h6 h7=>?_,h2⟩
      by_cases he:j=i
      ·rw [he]; exact hp
      ·exact h1 j (by omega) h7
   ·exact .inr ⟨fun j h1 h2=>by omega,last f i (by omega)⟩
 rcases key n 0 Zx (by omega) (by have:=JL hn; omega) with ⟨m,_,h2,h3,h4,h5⟩ | ⟨h1,h2⟩
 ·exact .inl ⟨m,h2,h3,fun j hj=>h4 j (by omega) hj,h5⟩
 ·exact .inr ⟨fun j hj=>h1 j (by omega) hj,h2⟩
def zid:Id:=⟨0,0,0⟩
def Zad (i:Id) (t:Jq):Bool:=!decide (t.node.id=zid)&&decide (t.node.id=i)
def Zdq (s:Jq):Bool:=decide (0≤s.op∧s.op≤1073741824)&&(if s.node.id=zid then KT s.node ZX&&decide (s.lock=zid) else ZF s.node&&(decide (s.lock=zid)||Za2 s.lock))
def Kl (l:List Jq) (i:Nat):Bool:=match l[i]? with | some s=>!((l.take i).any (Zad s.node.id)) | none=>true
def Vm (l:List Jq):Bool:=decide (l.length≤64)&&(List.range' 0 l.length).all (fun i=>atB Zdq l i&&Kl l i)
theorem Ya (a b c:Int):((cop .eql a 0&&(cop .eql b 0&&(cop .eql c 0&&true)))=true)↔((⟨a,b,c⟩:Id)=zid):=Ye a b c 0 0 0
theorem Zy5 (s:Jq) (hs:s.node.path.length < 2 ^ 63):ZwP s.node.id.core s.node.id.op s.node.id.part (Zb s.node.path) s.node.cap.kind s.node.cap.base s.node.cap.bits s.node.cap.rights s.node.cap.width s.node.cap.level s.node.cap.device s.op s.lock.core s.lock.op s.lock.part=some (Zdq s):=by
 rw [Zqq]
 simp only [ZlJ,ZqX _ hs,Zua _ hs,Zum,Option.bind_some,Ya,Kj]
 have e:cop .eql s.lock.part 0=decide (s.lock.part=0):=rfl
 have e2:((cop .eql s.lock.core 0)&&((cop .eql s.lock.op 0)&&((cop .eql s.lock.part 0)&&true)))=decide (s.lock=zid):=by
  rw [Zj,Ya,Kj,decide_eq_true_eq]
 simp only [e2]
 repeat' split
 all_goals (refine congrArg some ?_; rw [Zj]; simp only [Zdq,Za2,CQ] at *; grind)
theorem ZoG {α:Type} (q:α→Bool) (l:List α) (i:Nat) (hi:i≤l.length):(l.take i).any q=true↔∃ j,∃ (h:j < l.length),j < i∧q l[j]=true:=by
 rw [List.any_eq_true]
 constructor
 ·rintro ⟨x,hx,hq⟩
  obtain ⟨j,hj,rfl⟩:=List.getElem_of_mem hx
  rw [List.length_take] at hj
  rw [List.getElem_take] at hq
  exact ⟨j,by omega,by omega,hq⟩
 ·rintro ⟨j,h1,h2,hq⟩
  refine ⟨l[j],?_,hq⟩
  rw [List.mem_iff_getElem]
  exact ⟨j,by rw [List.length_take]; omega,by rw [List.getElem_take]⟩
theorem Yn (l:List Jq):(l.map Zg).length=l.length:=List.length_map _
theorem ZyF (l:List Jq) (hl:l.length < 2 ^ 63) (a b c:Int):∃ r,ZvB (l.map Zg) a b c=some (r,l.any (Zad ⟨a,b,c⟩)):=by
 rw [Zq3,Yn]
 have:=ZfN (F:=fun k i=>ZdN k a b c (l.map Zg) (l.length:Int) i) (n:=l.length) (miss:=((0:Int),false)) (fun i=>((i:Int),true)) (atB (Zad ⟨a,b,c⟩) l) hl
  (fun k i hi=>by
   show ZdN (k+1) _ _ _ _ _ _=_
   rw [Zht,if_pos (ZZ hi)]
   refine (ZN hi _).trans ?_
   simp only [Yd,d2,d4,d8,d16]
   rw [ZlJ,Option.bind_some,ZR hi hl,Jb _ hi]
   generalize l[i]=t
   simp only [Ya,Ye,Kj,Bool.not_eq_true']
   unfold Zad
   by_cases h1:t.node.id=zid
   ·rw [if_neg (by simp only [Bool.not_eq_false]; rw [Ya]; exact h1),if_neg (by simp [h1])]
   ·rw [if_pos (by rw [← Bool.not_eq_true,Ya]; exact h1)]
    by_cases h2:t.node.id=⟨a,b,c⟩
    ·rw [if_pos (by exact h2),if_pos (by simp [h1,h2]; exact fun h=>h1 (h2.trans h))]
    ·rw [if_neg (by exact h2),if_neg (by simp [h1,h2])])
  (fun k i hi=>by show ZdN (k+1) _ _ _ _ _ _=_; rw [Zht,if_neg (ZY hi)])
 rcases this with ⟨i,h1,h2,h3,h4⟩ | ⟨h1,h2⟩
 ·refine ⟨i,?_⟩
  have e:l.any (Zad ⟨a,b,c⟩)=true:=by
   rw [Jb _ h1] at h2
   exact List.any_eq_true.2 ⟨l[i],List.getElem_mem h1,h2⟩
  rw [e]; exact h4
 ·refine ⟨0,?_⟩
  have e:l.any (Zad ⟨a,b,c⟩)=false:=by
   rw [List.any_eq_false]
   intro x hx
   obtain ⟨j,hj,rfl⟩:=List.getElem_of_mem hx
   have:=h1 j hj
   rw [Jb _ hj] at this
   rw [this]; exact Bool.false_ne_true
  rw [e]; exact h2
theorem ZzF (l:List Jq) (hl:l.length < 2 ^ 63) (hp:∀ s∈l,s.node.path.length < 2 ^ 63):Zw1 (l.map Zg)=some (Vm l):=by
 rw [Zrc,Yn]
 unfold Vm
 refine Zo (fun h=>?_) fun h=>?_
 ·rw [decide_eq_false (by simp only [CQ] at h; omega),Bool.false_and]
 ·rw [decide_eq_true (by simp only [CQ] at h; omega),Bool.true_and]
  have:=ZL (F:=fun k i=>ZeI k (l.map Zg) (l.map Zg) (l.length:Int) i) (n:=l.length) (fin:=some true) (bad:=some false) (fun i=>atB Zdq l i&&Kl l i) hl 0 (by omega)
   (fun k i _ hi=>by
    show ZeI (k+1) _ _ _ _=_
    rw [Zg0,if_pos (ZZ hi)]
    refine (ZN hi _).trans ?_
    simp only [Yd,d2,d4,d8,d16]
    obtain ⟨r,hr⟩:=ZyF (l.take i) (by rw [List.length_take]; omega) l[i].node.id.core l[i].node.id.op l[i].node.id.part
    have hu:Kl l i = !((l.take i).any (Zad l[i].node.id)):=by unfold Kl; rw [List.getElem?_eq_getElem hi]
    rw [Zy5 _ (hp _ (List.getElem_mem hi)),Option.bind_some,Zf (by omega),Zf (by rw [Yn]; omega),Int.toNat_natCast,← List.map_take,hr,Option.bind_some,ZR hi hl,Jb _ hi,hu,Kj]
    cases Zdq l[i] <;> cases (l.take i).any (Zad l[i].node.id) <;> rfl)
   (fun k i hi=>by show ZeI (k+1) _ _ _ _=_; rw [Zg0,if_neg (ZY hi)])
  refine this.trans ?_
  rw [Nat.sub_zero]
  cases (List.range' 0 l.length).all (fun i=>atB Zdq l i&&Kl l i) <;> rfl
theorem s23 (l:List Jq) (hl:l.length < 2 ^ 63) (i:Nat) (hi:i < l.length) (hz:¬ l[i].node.id=zid):∃ r,g23 (l.map Zg) l[i].node.id.core l[i].node.id.op l[i].node.id.part=some r∧(r=(i:Int)↔Kl l i=true):=by
 rw [ZpB]
 have hself:Zad l[i].node.id l[i]=true:=by simp [Zad,hz]
 have hu:Kl l i = !((l.take i).any (Zad l[i].node.id)):=by unfold Kl; rw [List.getElem?_eq_getElem hi]
 have:=ZfN (F:=fun k j=>Zd7 k (l.map Zg) l[i].node.id.core l[i].node.id.op l[i].node.id.part j) (n:=l.length) (miss:=(-1:Int)) (fun j=>(j:Int)) (atB (Zad l[i].node.id) l) hl
  (fun k j hj=>by
   show Zd7 (k+1) _ _ _ _ _=_
   rw [ZcA,Yn,if_pos (ZZ hj)]
   refine (ZN hj _).trans ?_
   simp only [Yd,d2,d4,d8,d16]
   rw [ZlL,Option.bind_some,ZR hj hl,Jb _ hj]
   generalize l[i].node.id=w
   refine (Zo (x:=if Zad w l[j]=true then some (j:Int) else _) (fun h=>?_) fun h=>?_)
   ·refine (ZN hj _).trans ?_
    simp only [Yd,d2,d4,d8,d16]
    simp only [Bool.not_eq_true'] at h
    rw [← Bool.not_eq_true,Ya,Kj] at h
    unfold Zad
    by_cases h2:l[j].node.id=w
    ·simp only [Ye,Kj,h2,if_true]
     rw [if_pos (by simp; exact fun h3=>h (h2.trans h3))]
    ·simp only [Ye,Kj,h2,if_false]
     rw [if_neg (by simp)]
   ·simp only [Bool.not_eq_true',Bool.not_eq_false] at h
    rw [Ya,Kj] at h
    rw [if_neg (by simp [Zad,h])])
  (fun k j hj=>by show Zd7 (k+1) _ _ _ _ _=_; rw [ZcA,Yn,if_neg (ZY hj)])
 rcases this with ⟨m,h1,h2,h3,h4⟩ | ⟨h1,_⟩
 ·refine ⟨m,h4,?_⟩
  rw [hu,Bool.not_eq_true',← Bool.not_eq_true,ZoG _ _ _ (by omega)]
  constructor
  ·intro he
   have he':m=i:=by omega
   subst he'
   rintro ⟨j,hj,hji,hq⟩
   have:=h3 j hji
   rw [Jb _ hj,hq] at this
   cases this
  ·intro hn
   by_cases hmi:m=i
   ·rw [hmi]
   ·exfalso
    by_cases hlt:m < i
    ·rw [Jb _ h1] at h2
     exact hn ⟨m,h1,hlt,h2⟩
    ·have:=h3 i (by omega)
     rw [Jb _ hi,hself] at this
     cases this
 ·have:=h1 i hi
  rw [Jb _ hi,hself] at this
  cases this
theorem ZzE (l:List Jq) (hl:l.length < 2 ^ 63) (hp:∀ s∈l,s.node.path.length < 2 ^ 63):Zwm (l.map Zg)=some (Vm l):=by
 rw [ZqK,Yn]
 unfold Vm
 refine Zo (fun h=>?_) fun h=>?_
 ·rw [decide_eq_false (by simp only [CQ] at h; omega),Bool.false_and]
 ·rw [decide_eq_true (by simp only [CQ] at h; omega),Bool.true_and]
  have:=ZL (F:=fun k i=>WM k (l.map Zg) i) (n:=l.length) (fin:=some true) (bad:=some false) (fun i=>atB Zdq l i&&Kl l i) hl 0 (by omega)
   (fun k i _ hi=>by
    show WM (k+1) _ _=_
    rw [ZgV,Yn,if_pos (ZZ hi)]
    refine (ZN hi _).trans ?_
    simp only [Yd,d2,d4,d8,d16]
    have hps:=hp _ (List.getElem_mem hi)
    have hu:l[i].node.id=zid→Kl l i=true:=by
     intro hz
     unfold Kl
     rw [List.getElem?_eq_getElem hi]
     simp only [Bool.not_eq_true',List.any_eq_false]
     intro t _
     rw [hz]
     simp [Zad]
    have h128:=s23 l hl i hi
    rw [Jb _ hi,ZR hi hl]
    generalize WM k (l.map Zg) ((i+1:Nat):Int)=X
    generalize huq:Kl l i=uq at *
    generalize hli:l[i]=t at *
    simp only [ZlL,s88,ZyK _ hps,s87 _ hps,Option.bind_some,Ya,Kj]
    have e2:((cop .eql t.lock.core 0)&&((cop .eql t.lock.op 0)&&((cop .eql t.lock.part 0)&&true)))=decide (t.lock=zid):=by
     rw [Zj,Ya,Kj,decide_eq_true_eq]
    simp only [e2]
    by_cases hz:t.node.id=zid
    ·have:=hu hz
     subst this
     simp only [hz,if_true]
     repeat' split
     all_goals (simp only [Zdq,Za2,hz,if_true,CQ] at * <;> grind)
    ·obtain ⟨r,hr,hru⟩:=h128 hz
     simp only [hz,if_false,hr,Option.bind_some]
     repeat' split
     all_goals (simp only [Zdq,Za2,hz,if_false,CQ] at * <;> grind))
   (fun k i hi=>by show WM (k+1) _ _=_; rw [ZgV,Yn,if_neg (ZY hi)])
  refine this.trans ?_
  rw [Nat.sub_zero]
  cases (List.range' 0 l.length).all (fun i=>atB Zdq l i&&Kl l i) <;> rfl
end Go.Proofs.YtljejgmcgddppaaGreat
end

section
namespace Go.Proofs.YtljejgmcgddppaaGreat
open Go Go.AM
set_option linter.unusedSimpArgs false
set_option linter.unusedVariables false
set_option maxRecDepth 100000
theorem ZdY {j:Nat} (h:j+1 < 2 ^ 63):iop .sub .i64 ((j+1:Nat):Int) 1=(j:Int):=by
 rw [ZhK (by omega) (by omega)]; omega
theorem ZlC (j:Nat):cop .gtr ((j+1:Nat):Int) 0=true:=by simp only [CQ]; omega
theorem ZmX:cop .gtr ((0:Nat):Int) 0=false:=rfl
def Zr7 (a b:Id):Bool:=Zsd a.core a.op a.part b.core b.op b.part
theorem s29 (a b c d e f:Int):g29 a b c d e f=some (Zsd a b c d e f):=by
 rw [ZsJ]
 repeat' split
 all_goals (refine congrArg some ?_; rw [Zj]; simp only [Zsd,CQ] at *; omega)
def Y7 (m:YA):Bool:=Z1 m.region&&Za2 m.op
def Wc (a:Ans):Bool:=decide (1≤a.op∧a.op≤1073741824)&&ZcD a.err
def We (e:ZG):Bool:=Zs e.core&&Jl e.slot&&ZF e.node
def ltp:Req→Req→Bool:=fun a b=>Zr7 a.id b.id
theorem ZzH (x:Req) (hx:x.src.path.length < 2 ^ 63):Zxj x.id.core x.id.op x.id.part x.call.kind x.call.slot x.call.dest x.call.core x.call.mask x.call.object x.call.bits x.call.level x.call.offset x.call.count x.call.index x.call.addr x.region x.width x.src.id.core x.src.id.op x.src.id.part (Zb x.src.path) x.src.cap.kind x.src.cap.base x.src.cap.bits x.src.cap.rights x.src.cap.width x.src.cap.level x.src.cap.device=some (!KS x):=by
 rw [ZqC,Zyw x hx,Option.bind_some]
theorem ZoJ (l:List Req) (hl:l.length < 2 ^ 63) (hp:∀ x∈l,x.src.path.length < 2 ^ 63):∃ r,Zfc (l.map ZM)=some r∧cop .geq r 0 = !(l.all KS):=by
 rw [ZiL,List.length_map]
 have:=YF (F:=fun k i=>Kx k (l.map ZM) (l.length:Int) i) (n:=l.length) (fun i=>!atB KS l i) hl
  (fun k i hi=>by
   show Kx (k+1) _ _ _=_
   rw [Zav,if_pos (ZZ hi)]
   refine (Yb hi _).trans ?_
   simp only [ZqF,d2,d4,d8,d16]
   rw [ZzH l[i] (hp _ (List.getElem_mem hi)),Option.bind_some,ZR hi hl,Jb _ hi])
  (fun k i hi=>by show Kx (k+1) _ _ _=_; rw [Zav,if_neg (ZY hi)])
 rw [V3] at this
 exact this
theorem Zoz (l:List Req) (hl:l.length < 2 ^ 63) (hp:∀ x∈l,x.src.path.length < 2 ^ 63):Zfq (l.map ZM)=some (!(l.all KS)):=by
 obtain ⟨r,h1,h2⟩:=ZoJ l hl hp
 rw [Zir,h1,Option.bind_some,h2]
theorem Zzj (l:List Req) {j:Nat} (hj:j+1 < l.length):Zwq (j:Int) ((j+1:Nat):Int) (l.map ZM)=some (ltp l[j] l[j+1],l.map ZM):=by
 rw [ZqG]
 refine (Yb (show j < l.length by omega) _).trans ?_
 refine (Yb hj _).trans ?_
 simp only [ZqF,d2,d4,d8,d16]
 rw [ZyE,Option.bind_some]; rfl
theorem ZoK (l:List Req) (hl:l.length < 2 ^ 63):ZfC (l.length:Int) (l.map ZM)=some (KO ltp l,l.map ZM):=by
 rw [ZhT]
 have:=ZL (F:=fun k i=>Ks k (l.length:Int) i (l.map ZM)) (n:=l.length) (fin:=some (true,l.map ZM)) (bad:=some (false,l.map ZM)) (Vn ltp l) hl 1 (by omega)
  (fun k i h1 hi=>by
   obtain ⟨j,rfl⟩:∃ j,i=j+1:=⟨i - 1,by omega⟩
   show Ks (k+1) _ _ _=_
   rw [Zat,if_pos (ZZ hi),ZdY (by omega),Zzj l hi,Option.bind_some,ZR hi hl,Ke _ hi]
   cases ltp l[j] l[j+1] <;> rfl)
  (fun k i hi=>by show Ks (k+1) _ _ _=_; rw [Zat,if_neg (ZY hi)])
 rw [Ztu] at this
 refine Eq.trans this ?_
 cases KO ltp l <;> rfl
theorem Zzg (l:List Req) (hl:l.length < 2 ^ 63) (hp:∀ x∈l,x.src.path.length < 2 ^ 63):Zyr (l.map ZM)=some (l.all KS&&KO ltp l):=by
 rw [ZpQ,Zoz l hl hp,Option.bind_some,List.length_map,ZoK l hl,Option.bind_some]
 cases l.all KS <;> rfl
def ltm:YA→YA→Bool:=fun a b=>decide (a.region < b.region)
theorem ZAk (x:YA):Zxe x.region x.op.core x.op.op x.op.part=some (!Y7 x):=by
 rw [ZpS]
 simp only [Zvk,ZvO,Option.bind_some]
 repeat' split
 all_goals (refine congrArg some ?_; rw [Zj]; simp only [Y7,CQ] at * <;> grind)
theorem ZoF (l:List YA) (hl:l.length < 2 ^ 63):∃ r,Zf4 (l.map Zk)=some r∧cop .geq r 0 = !(l.all Y7):=by
 rw [ZiB,List.length_map]
 have:=YF (F:=fun k i=>Ky k (l.map Zk) (l.length:Int) i) (n:=l.length) (fun i=>!atB Y7 l i) hl
  (fun k i hi=>by
   show Ky (k+1) _ _ _=_
   rw [ZaF,if_pos (ZZ hi)]
   refine (Je hi _).trans ?_
   simp only [d2,d4,d8,d16]
   rw [ZAk l[i],Option.bind_some,ZR hi hl,Jb _ hi])
  (fun k i hi=>by show Ky (k+1) _ _ _=_; rw [ZaF,if_neg (ZY hi)])
 rw [V3] at this
 exact this
theorem Zos (l:List YA) (hl:l.length < 2 ^ 63):ZfF (l.map Zk)=some (!(l.all Y7)):=by
 obtain ⟨r,h1,h2⟩:=ZoF l hl
 rw [Zh6,h1,Option.bind_some,h2]
theorem Zze (l:List YA) {j:Nat} (hj:j+1 < l.length):Zxh (j:Int) ((j+1:Nat):Int) (l.map Zk)=some (ltm l[j] l[j+1],l.map Zk):=by
 rw [Zr0]
 refine (Je (show j < l.length by omega) _).trans ?_
 refine (Je hj _).trans ?_
 simp only [d2,d4,d8,d16]
 rfl
theorem ZoV (l:List YA) (hl:l.length < 2 ^ 63):ZfL (l.length:Int) (l.map Zk)=some (KO ltm l,l.map Zk):=by
 rw [ZiG]
 have:=ZL (F:=fun k i=>Kv k (l.length:Int) i (l.map Zk)) (n:=l.length) (fin:=some (true,l.map Zk)) (bad:=some (false,l.map Zk)) (Vn ltm l) hl 1 (by omega)
  (fun k i h1 hi=>by
   obtain ⟨j,rfl⟩:∃ j,i=j+1:=⟨i - 1,by omega⟩
   show Kv (k+1) _ _ _=_
   rw [Zbj,if_pos (ZZ hi),ZdY (by omega),Zze l hi,Option.bind_some,ZR hi hl,Ke _ hi]
   cases ltm l[j] l[j+1] <;> rfl)
  (fun k i hi=>by show Kv (k+1) _ _ _=_; rw [Zbj,if_neg (ZY hi)])
 rw [Ztu] at this
 refine Eq.trans this ?_
 cases KO ltm l <;> rfl
theorem ZzV (l:List YA) (hl:l.length < 2 ^ 63):Zwg (l.map Zk)=some (l.all Y7&&KO ltm l):=by
 rw [Zrf,Zos l hl,Option.bind_some,List.length_map,ZoV l hl,Option.bind_some]
 cases l.all Y7 <;> rfl
def lta:Ans→Ans→Bool:=fun a b=>decide (a.op < b.op)
theorem ZzZ (x:Ans):Zxz x.op x.err=some (!Wc x):=by
 rw [ZrC]
 simp only [Zyz,Option.bind_some]
 repeat' split
 all_goals (refine congrArg some ?_; rw [Zj]; simp only [Wc,CQ] at * <;> grind)
theorem ZnY (l:List Ans) (hl:l.length < 2 ^ 63):∃ r,ZfH (l.map ZS)=some r∧cop .geq r 0 = !(l.all Wc):=by
 rw [Zh9,List.length_map]
 have:=YF (F:=fun k i=>Kq k (l.map ZS) (l.length:Int) i) (n:=l.length) (fun i=>!atB Wc l i) hl
  (fun k i hi=>by
   show Kq (k+1) _ _ _=_
   rw [Zas,if_pos (ZZ hi)]
   refine (Yl hi _).trans ?_
   simp only [d2,d4,d8,d16]
   rw [ZzZ l[i],Option.bind_some,ZR hi hl,Jb _ hi])
  (fun k i hi=>by show Kq (k+1) _ _ _=_; rw [Zas,if_neg (ZY hi)])
 rw [V3] at this
 exact this
theorem ZnU (l:List Ans) (hl:l.length < 2 ^ 63):Zfa (l.map ZS)=some (!(l.all Wc)):=by
 obtain ⟨r,h1,h2⟩:=ZnY l hl
 rw [ZhG,h1,Option.bind_some,h2]
theorem Zza (l:List Ans) {j:Nat} (hj:j+1 < l.length):ZxV (j:Int) ((j+1:Nat):Int) (l.map ZS)=some (lta l[j] l[j+1],l.map ZS):=by
 rw [ZqP]
 refine (Yl (show j < l.length by omega) _).trans ?_
 refine (Yl hj _).trans ?_
 simp only [d2,d4,d8,d16]
 rfl
theorem Zn4 (l:List Ans) (hl:l.length < 2 ^ 63):Zf5 (l.length:Int) (l.map ZS)=some (KO lta l,l.map ZS):=by
 rw [ZiP]
 have:=ZL (F:=fun k i=>KH k (l.length:Int) i (l.map ZS)) (n:=l.length) (fin:=some (true,l.map ZS)) (bad:=some (false,l.map ZS)) (Vn lta l) hl 1 (by omega)
  (fun k i h1 hi=>by
   obtain ⟨j,rfl⟩:∃ j,i=j+1:=⟨i - 1,by omega⟩
   show KH (k+1) _ _ _=_
   rw [Zai,if_pos (ZZ hi),ZdY (by omega),Zza l hi,Option.bind_some,ZR hi hl,Ke _ hi]
   cases lta l[j] l[j+1] <;> rfl)
  (fun k i hi=>by show KH (k+1) _ _ _=_; rw [Zai,if_neg (ZY hi)])
 rw [Ztu] at this
 refine Eq.trans this ?_
 cases KO lta l <;> rfl
theorem ZzG (l:List Ans) (hl:l.length < 2 ^ 63):Zxm (l.map ZS)=some (l.all Wc&&KO lta l):=by
 rw [ZpT,ZnU l hl,Option.bind_some,List.length_map,Zn4 l hl,Option.bind_some]
 cases l.all Wc <;> rfl
def lte:ZG→ZG→Bool:=fun a b=>Zr7 a.node.id b.node.id
theorem Zz0 (x:ZG) (hx:x.node.path.length < 2 ^ 63):Zxd x.core x.slot x.node.id.core x.node.id.op x.node.id.part (Zb x.node.path) x.node.cap.kind x.node.cap.base x.node.cap.bits x.node.cap.rights x.node.cap.width x.node.cap.level x.node.cap.device=some (!We x):=by
 rw [ZqO]
 simp only [s67,ZyR,Zua _ hx,Option.bind_some]
 repeat' split
 all_goals (refine congrArg some ?_; rw [Zj]; simp only [We,CQ] at * <;> grind)
theorem Zoi (l:List ZG) (hl:l.length < 2 ^ 63) (hp:∀ x∈l,x.node.path.length < 2 ^ 63):∃ r,Zga (l.map Ze)=some r∧cop .geq r 0 = !(l.all We):=by
 rw [ZiQ,List.length_map]
 have:=YF (F:=fun k i=>KF k (l.map Ze) (l.length:Int) i) (n:=l.length) (fun i=>!atB We l i) hl
  (fun k i hi=>by
   show KF (k+1) _ _ _=_
   rw [Zal,if_pos (ZZ hi)]
   refine (Zt hi _).trans ?_
   simp only [J8,d2,d4,d8,d16]
   rw [Zz0 l[i] (hp _ (List.getElem_mem hi)),Option.bind_some,ZR hi hl,Jb _ hi])
  (fun k i hi=>by show KF (k+1) _ _ _=_; rw [Zal,if_neg (ZY hi)])
 rw [V3] at this
 exact this
theorem Zom (l:List ZG) (hl:l.length < 2 ^ 63) (hp:∀ x∈l,x.node.path.length < 2 ^ 63):ZfI (l.map Ze)=some (!(l.all We)):=by
 obtain ⟨r,h1,h2⟩:=Zoi l hl hp
 rw [ZhM,h1,Option.bind_some,h2]
theorem ZAr (l:List ZG) {j:Nat} (hj:j+1 < l.length):ZwS (j:Int) ((j+1:Nat):Int) (l.map Ze)=some (lte l[j] l[j+1],l.map Ze):=by
 rw [ZpU]
 refine (Zt (show j < l.length by omega) _).trans ?_
 refine (Zt hj _).trans ?_
 simp only [J8,d2,d4,d8,d16]
 rw [ZyE,Option.bind_some]; rfl
theorem Zo2 (l:List ZG) (hl:l.length < 2 ^ 63):ZfE (l.length:Int) (l.map Ze)=some (KO lte l,l.map Ze):=by
 rw [ZiM]
 have:=ZL (F:=fun k i=>Kr k (l.length:Int) i (l.map Ze)) (n:=l.length) (fin:=some (true,l.map Ze)) (bad:=some (false,l.map Ze)) (Vn lte l) hl 1 (by omega)
  (fun k i h1 hi=>by
   obtain ⟨j,rfl⟩:∃ j,i=j+1:=⟨i - 1,by omega⟩
   show Kr (k+1) _ _ _=_
   rw [Za8,if_pos (ZZ hi),ZdY (by omega),ZAr l hi,Option.bind_some,ZR hi hl,Ke _ hi]
   cases lte l[j] l[j+1] <;> rfl)
  (fun k i hi=>by show Kr (k+1) _ _ _=_; rw [Za8,if_neg (ZY hi)])
 rw [Ztu] at this
 refine Eq.trans this ?_
 cases KO lte l <;> rfl
theorem Zzf (l:List ZG) (hl:l.length < 2 ^ 63) (hp:∀ x∈l,x.node.path.length < 2 ^ 63):ZxL (l.map Ze)=some (l.all We&&KO lte l):=by
 rw [ZrG,Zom l hl hp,Option.bind_some,List.length_map,Zo2 l hl,Option.bind_some]
 cases l.all We <;> rfl
theorem ZAj (x:Id):Zxf x.core x.op x.part=some (!Za2 x):=by
 rw [ZqS,ZvO,Option.bind_some]
theorem ZoM (l:List Id) (hl:l.length < 2 ^ 63):∃ r,ZfD (Zb l)=some r∧cop .geq r 0 = !(l.all Za2):=by
 rw [Zin,Z0]
 have:=YF (F:=fun k i=>KD k (Zb l) (l.length:Int) i) (n:=l.length) (fun i=>!atB Za2 l i) hl
  (fun k i hi=>by
   show KD (k+1) _ _ _=_
   rw [Za5,if_pos (ZZ hi)]
   refine (Wn hi _).trans ?_
   dsimp only
   rw [ZAj l[i],Option.bind_some,ZR hi hl,Jb _ hi])
  (fun k i hi=>by show KD (k+1) _ _ _=_; rw [Za5,if_neg (ZY hi)])
 rw [V3] at this
 exact this
theorem Zo0 (l:List Id) (hl:l.length < 2 ^ 63):Zfr (Zb l)=some (!(l.all Za2)):=by
 obtain ⟨r,h1,h2⟩:=ZoM l hl
 rw [ZhL,h1,Option.bind_some,h2]
def Zik (ops:Bool) (i:Id):Bool:=Wo i&&(!ops||decide (i.part=0))
theorem s94 (l:List Id) (ops:Bool) (hl:l.length < 2 ^ 63):g94 (Zb l) ops=some (l.all (Zik ops)):=by
 rw [Zub]
 have:=ZL (F:=fun k i=>Zgr k (Zb l) ops i) (n:=l.length) (fin:=some true) (bad:=some false) (atB (Zik ops) l) hl 0 (by omega)
  (fun k i _ hi=>by
   show Zgr (k+1) _ _ _=_
   rw [ZjK,Z0,if_pos (ZZ hi)]
   refine (Wn hi _).trans ?_
   dsimp only
   rw [s88,Option.bind_some,ZR hi hl,Jb _ hi,Kj]
   generalize Zgr k (Zb l) ops ((i+1:Nat):Int)=X
   have e:∀ k:(Int×Int×Int)→Option Bool,Zi (Zb l) (i:Int) [.int .i64,.int .i64,.int .i64] k=k (l[i].core,l[i].op,l[i].part):=fun k=>Wn hi k
   simp only [e]
   generalize l[i]=t
   unfold Zik
   repeat' split
   all_goals (simp only [CQ] at * <;> grind))
  (fun k i hi=>by show Zgr (k+1) _ _ _=_; rw [ZjK,Z0,if_neg (ZY hi)])
 rw [Nat.sub_zero,ZeS] at this
 refine Eq.trans this ?_
 cases l.all (Zik ops) <;> rfl
theorem Zxg (l:List ZG) (hl:l.length < 2 ^ 63) (hp:∀ x∈l,x.node.path.length < 2 ^ 63) (x0 x1 x2 x3 x5:List (List AV)):ZcM Zx x0 x1 x2 x3 (l.map Ze) x5 0=if (l.all We&&KO lte l)=true then some true else some false:=by
 have:=ZL (F:=fun k i=>ZcM k x0 x1 x2 x3 (l.map Ze) x5 i) (n:=l.length) (fin:=some true) (bad:=some false) (fun i=>atB We l i&&Vn lte l i) hl 0 (by omega)
  (fun k i _ hi=>by
   show ZcM (k+1) x0 x1 x2 x3 (l.map Ze) x5 _=_
   rw [ZjR,List.length_map,if_pos (ZZ hi)]
   refine (Zt hi _).trans ?_
   rw [ZR hi hl,Jb _ hi]
   generalize ZcM k x0 x1 x2 x3 (l.map Ze) x5 ((i+1:Nat):Int)=X
   cases i with
   | zero =>
    simp only [J8,d2,d4,d8,d16,s90,s87 _ (hp _ (List.getElem_mem hi)),s29,Option.bind_some,ZmX,Bool.false_eq_true,if_false,Vn,Bool.and_true]
    generalize l[0]=t
    repeat' split
    all_goals (simp only [We,Z1,Jl,CQ] at * <;> grind)
   | succ j =>
    simp only [J8,d2,d4,d8,d16,s90,s87 _ (hp _ (List.getElem_mem hi)),s29,Option.bind_some,ZlC,if_true,ZdY (show j+1 < 2 ^ 63 by omega),Zt (show j < l.length by omega),Zt hi,Ke _ hi]
    generalize l[j+1]=t
    generalize l[j]=u
    unfold lte Zr7
    repeat' split
    all_goals (simp only [We,Z1,Jl,CQ] at * <;> grind))
  (fun k i hi=>by show ZcM (k+1) x0 x1 x2 x3 (l.map Ze) x5 _=_; rw [ZjR,List.length_map,if_neg (ZY hi)])
 rw [Nat.sub_zero,Zc7] at this
 exact this
theorem ZxJ (l:List Ans) (hl:l.length < 2 ^ 63) (x0 x1 x2 x4 x5:List (List AV)):ZdE Zx x0 x1 x2 (l.map ZS) x4 x5 0=if (l.all Wc&&KO lta l)=true then ZcM Zx x0 x1 x2 (l.map ZS) x4 x5 0 else some false:=by
 have:=ZL (F:=fun k i=>ZdE k x0 x1 x2 (l.map ZS) x4 x5 i) (n:=l.length) (fin:=ZcM Zx x0 x1 x2 (l.map ZS) x4 x5 0) (bad:=some false) (fun i=>atB Wc l i&&Vn lta l i) hl 0 (by omega)
  (fun k i _ hi=>by
   show ZdE (k+1) x0 x1 x2 (l.map ZS) x4 x5 _=_
   rw [Zjm,List.length_map,if_pos (ZZ hi)]
   refine (Yl hi _).trans ?_
   rw [ZR hi hl,Jb _ hi]
   generalize ZdE k x0 x1 x2 (l.map ZS) x4 x5 ((i+1:Nat):Int)=X
   cases i with
   | zero =>
    simp only [d2,d4,d8,d16,s93,Option.bind_some,ZmX,Bool.false_eq_true,if_false,Vn,Bool.and_true]
    generalize l[0]=t
    repeat' split
    all_goals (simp only [Wc,Z1,Jl,CQ] at * <;> grind)
   | succ j =>
    simp only [d2,d4,d8,d16,s93,Option.bind_some,ZlC,if_true,ZdY (show j+1 < 2 ^ 63 by omega),Yl (show j < l.length by omega),Yl hi,Ke _ hi]
    generalize l[j+1]=t
    generalize l[j]=u
    unfold lta
    repeat' split
    all_goals (simp only [Wc,Z1,Jl,CQ] at * <;> grind))
  (fun k i hi=>by show ZdE (k+1) x0 x1 x2 (l.map ZS) x4 x5 _=_; rw [Zjm,List.length_map,if_neg (ZY hi)])
 rw [Nat.sub_zero,Zc7] at this
 exact this
theorem ZxK (l:List YA) (hl:l.length < 2 ^ 63) (x0 x1 x3 x4 x5:List (List AV)):Zdy Zx x0 x1 (l.map Zk) x3 x4 x5 0=if (l.all Y7&&KO ltm l)=true then ZdE Zx x0 x1 (l.map Zk) x3 x4 x5 0 else some false:=by
 have:=ZL (F:=fun k i=>Zdy k x0 x1 (l.map Zk) x3 x4 x5 i) (n:=l.length) (fin:=ZdE Zx x0 x1 (l.map Zk) x3 x4 x5 0) (bad:=some false) (fun i=>atB Y7 l i&&Vn ltm l i) hl 0 (by omega)
  (fun k i _ hi=>by
   show Zdy (k+1) x0 x1 (l.map Zk) x3 x4 x5 _=_
   rw [Zi5,List.length_map,if_pos (ZZ hi)]
   refine (Je hi _).trans ?_
   rw [ZR hi hl,Jb _ hi]
   generalize Zdy k x0 x1 (l.map Zk) x3 x4 x5 ((i+1:Nat):Int)=X
   cases i with
   | zero =>
    simp only [d2,d4,d8,d16,ZtG,s92 l[0].op,Option.bind_some,ZmX,Bool.false_eq_true,if_false,Vn,Bool.and_true]
    generalize l[0]=t
    repeat' split
    all_goals (simp only [Y7,Z1,Jl,CQ] at * <;> grind)
   | succ j =>
    simp only [d2,d4,d8,d16,ZtG,s92 l[j+1].op,Option.bind_some,ZlC,if_true,ZdY (show j+1 < 2 ^ 63 by omega),Je (show j < l.length by omega),Je hi,Ke _ hi]
    generalize l[j+1]=t
    generalize l[j]=u
    unfold ltm
    repeat' split
    all_goals (simp only [Y7,Z1,Jl,CQ] at * <;> grind))
  (fun k i hi=>by show Zdy (k+1) x0 x1 (l.map Zk) x3 x4 x5 _=_; rw [Zi5,List.length_map,if_neg (ZY hi)])
 rw [Nat.sub_zero,Zc7] at this
 exact this
theorem Zwx (l:List Req) (hl:l.length < 2 ^ 63) (hp:∀ x∈l,x.src.path.length < 2 ^ 63) (x0 x2 x3 x4 x5:List (List AV)):Zfz Zx x0 (l.map ZM) x2 x3 x4 x5 0=if (l.all KS&&KO ltp l)=true then Zdy Zx x0 (l.map ZM) x2 x3 x4 x5 0 else some false:=by
 have:=ZL (F:=fun k i=>Zfz k x0 (l.map ZM) x2 x3 x4 x5 i) (n:=l.length) (fin:=Zdy Zx x0 (l.map ZM) x2 x3 x4 x5 0) (bad:=some false) (fun i=>atB KS l i&&Vn ltp l i) hl 0 (by omega)
  (fun k i _ hi=>by
   show Zfz (k+1) x0 (l.map ZM) x2 x3 x4 x5 _=_
   rw [Zj7,List.length_map,if_pos (ZZ hi)]
   refine (Yb hi _).trans ?_
   rw [ZR hi hl,Jb _ hi]
   generalize Zfz k x0 (l.map ZM) x2 x3 x4 x5 ((i+1:Nat):Int)=X
   cases i with
   | zero =>
    simp only [ZqF,d2,d4,d8,d16,s91 _ (hp _ (List.getElem_mem hi)),s29,Option.bind_some,ZmX,Bool.false_eq_true,if_false,Vn,Bool.and_true]
    generalize l[0]=t
    repeat' split
    all_goals (simp only [Z1,Jl,CQ] at * <;> grind)
   | succ j =>
    simp only [ZqF,d2,d4,d8,d16,s91 _ (hp _ (List.getElem_mem hi)),s29,Option.bind_some,ZlC,if_true,ZdY (show j+1 < 2 ^ 63 by omega),Yb (show j < l.length by omega),Yb hi,Ke _ hi]
    generalize l[j+1]=t
    generalize l[j]=u
    unfold ltp Zr7
    repeat' split
    all_goals (simp only [Z1,Jl,CQ] at * <;> grind))
  (fun k i hi=>by show Zfz (k+1) x0 (l.map ZM) x2 x3 x4 x5 _=_; rw [Zj7,List.length_map,if_neg (ZY hi)])
 rw [Nat.sub_zero,Zc7] at this
 exact this
def YJ (s:State):Bool:=Vm s.slots&&(s.pending.all KS&&KO ltp s.pending)&&(s.marks.all Y7&&KO ltm s.marks)&&(s.answers.all Wc&&KO lta s.answers)&&(s.entries.all We&&KO lte s.entries)&&s.commits.all Za2
structure State.Fits (s:State):Prop where
 slots:s.slots.length < 2 ^ 63
 pending:s.pending.length < 2 ^ 63
 marks:s.marks.length < 2 ^ 63
 answers:s.answers.length < 2 ^ 63
 entries:s.entries.length < 2 ^ 63
 commits:s.commits.length < 2 ^ 63
 slot:∀ x∈s.slots,x.node.path.length < 2 ^ 63
 req:∀ x∈s.pending,x.src.path.length < 2 ^ 63
 entry:∀ x∈s.entries,x.node.path.length < 2 ^ 63
theorem Zv6 (s:State) (h:s.Fits):ZuQ (s.slots.map Zg) (s.pending.map ZM) (s.marks.map Zk) (s.answers.map ZS) (s.entries.map Ze) (Zb s.commits)=some (YJ s):=by
 rw [ZrE,ZzF _ h.slots h.slot,Option.bind_some,Zzg _ h.pending h.req,Option.bind_some,ZzV _ h.marks,Option.bind_some,ZzG _ h.answers,Option.bind_some,Zzf _ h.entries h.entry,Option.bind_some,Zo0 _ h.commits,Option.bind_some]
 unfold YJ
 cases Vm s.slots <;> cases (s.pending.all KS&&KO ltp s.pending) <;> cases (s.marks.all Y7&&KO ltm s.marks) <;> cases (s.answers.all Wc&&KO lta s.answers) <;> cases (s.entries.all We&&KO lte s.entries) <;> cases s.commits.all Za2 <;> rfl
theorem s98 (s:State) (h:s.Fits):g98 (s.slots.map Zg) (s.pending.map ZM) (s.marks.map Zk) (s.answers.map ZS) (s.entries.map Ze) (Zb s.commits)=some (YJ s):=by
 have e:s.commits.all (Zik true)=s.commits.all Za2:=by congr
 rw [ZuD,ZzE _ h.slots h.slot,Option.bind_some,s94 _ _ h.commits,Option.bind_some,Zwx _ h.pending h.req,ZxK _ h.marks,ZxJ _ h.answers,Zxg _ h.entries h.entry,e]
 unfold YJ
 cases Vm s.slots <;> cases (s.pending.all KS&&KO ltp s.pending) <;> cases (s.marks.all Y7&&KO ltm s.marks) <;> cases (s.answers.all Wc&&KO lta s.answers) <;> cases (s.entries.all We&&KO lte s.entries) <;> cases s.commits.all Za2 <;> rfl
end Go.Proofs.YtljejgmcgddppaaGreat
end

section
namespace Go.Proofs.YtljejgmcgddppaaGreat
open Go Go.AM
set_option linter.unusedSimpArgs false
set_option linter.unusedVariables false
set_option maxRecDepth 100000
theorem Zzv {n:Nat} (h:n≤maxLen):n < 2 ^ 63:=by
 have:maxLen+1=2 ^ 63:=by decide
 omega
def ZlA (s:State):List AV:=[.slice false 15 (s.slots.map Zg),.slice false 28 (s.pending.map ZM),.slice false 4 (s.marks.map Zk),.slice false 2 (s.answers.map ZS),.slice false 13 (s.entries.map Ze),.slice false 3 (Zb s.commits)]
end Go.Proofs.YtljejgmcgddppaaGreat
end

section
namespace Go.Proofs.YtljejgmcgddppaaGreat
open Go Go.AM
set_option linter.unusedSimpArgs false
set_option linter.unusedVariables false
set_option maxRecDepth 100000
theorem ZJ (l:List Int):(Za l).length=l.length:=by simp [Za]
theorem Zhl (l:List Int) (n:Nat):(Za l).take n=Za (l.take n):=by simp [Za,List.map_take]
def Jy (z:Int):Bool:=decide (0≤z∧z≤1073741824)
def Vc (m:ZiY):Bool:=Z1 m.region&&Zs m.to
theorem s66 (z:Int):g66 z=some (Jy z):=by
 rw [ZuP]
 repeat' split
 all_goals (refine congrArg some ?_; rw [Zj]; simp only [Jy,CQ] at *; omega)
theorem s89 (z:Int):g89 z=some (Jy z):=by
 rw [Zst]
 repeat' split
 all_goals (refine congrArg some ?_; rw [Zj]; simp only [Jy,CQ] at *; omega)
theorem ZzL (x:Y4) (hx:x.path.length < 2 ^ 63):Zxc x.id.core x.id.op x.id.part (Zb x.path) x.cap.kind x.cap.base x.cap.bits x.cap.rights x.cap.width x.cap.level x.cap.device=some (!ZF x):=by
 rw [Zro,Zua x hx,Option.bind_some]
theorem ZnK (l:List Y4) (hl:l.length < 2 ^ 63) (hp:∀ x∈l,x.path.length < 2 ^ 63):∃ r,Zf0 (l.map Ju)=some r∧cop .geq r 0 = !(l.all ZF):=by
 rw [ZiU,List.length_map]
 have:=YF (F:=fun k i=>KE k (l.map Ju) (l.length:Int) i) (n:=l.length) (fun i=>!atB ZF l i) hl
  (fun k i hi=>by
   show KE (k+1) _ _ _=_
   rw [ZaJ,if_pos (ZZ hi)]
   refine (Yx hi _).trans ?_
   simp only [Zft,d2,d4,d8,d16]
   rw [ZzL l[i] (hp _ (List.getElem_mem hi)),Option.bind_some,ZR hi hl,Jb _ hi])
  (fun k i hi=>by show KE (k+1) _ _ _=_; rw [ZaJ,if_neg (ZY hi)])
 rw [V3] at this
 exact this
theorem ZnF (l:List Y4) (hl:l.length < 2 ^ 63) (hp:∀ x∈l,x.path.length < 2 ^ 63):Wr (l.map Ju)=some (!(l.all ZF)):=by
 obtain ⟨r,h1,h2⟩:=ZnK l hl hp
 rw [ZhR,h1,Option.bind_some,h2]
theorem Zzb (x:Id):Zyt x.core x.op x.part=some (!Wo x):=by
 rw [Zp1,Zum,Option.bind_some,Kj]
theorem ZnS (l:List Id) (hl:l.length < 2 ^ 63):∃ r,Zfm (Zb l)=some r∧cop .geq r 0 = !(l.all Wo):=by
 rw [ZiW,Z0]
 have:=YF (F:=fun k i=>KG k (Zb l) (l.length:Int) i) (n:=l.length) (fun i=>!atB Wo l i) hl
  (fun k i hi=>by
   show KG (k+1) _ _ _=_
   rw [Zbh,if_pos (ZZ hi)]
   refine (Wn hi _).trans ?_
   dsimp only
   rw [Zzb l[i],Option.bind_some,ZR hi hl,Jb _ hi])
  (fun k i hi=>by show KG (k+1) _ _ _=_; rw [Zbh,if_neg (ZY hi)])
 rw [V3] at this
 exact this
theorem Zoy (l:List Id) (hl:l.length < 2 ^ 63):Zb9 (Zb l)=some (!(l.all Wo)):=by
 obtain ⟨r,h1,h2⟩:=ZnS l hl
 rw [ZiH,h1,Option.bind_some,h2]
theorem Zzo (x:Int):ZxF x=some (!Zs x):=by
 rw [Zp4,s67,Option.bind_some]
theorem ZnI (l:List Int) (hl:l.length < 2 ^ 63):∃ r,Zfu (Za l)=some r∧cop .geq r 0 = !(l.all Zs):=by
 rw [ZhV,ZJ]
 have:=YF (F:=fun k i=>KA k (Za l) (l.length:Int) i) (n:=l.length) (fun i=>!atB Zs l i) hl
  (fun k i hi=>by
   show KA (k+1) _ _ _=_
   rw [ZaI,if_pos (ZZ hi)]
   refine (ZW hi _).trans ?_
   skip
   rw [Zzo l[i],Option.bind_some,ZR hi hl,Jb _ hi])
  (fun k i hi=>by show KA (k+1) _ _ _=_; rw [ZaI,if_neg (ZY hi)])
 rw [V3] at this
 exact this
theorem Zn6 (l:List Int) (hl:l.length < 2 ^ 63):Zcu (Za l)=some (!(l.all Zs)):=by
 obtain ⟨r,h1,h2⟩:=ZnI l hl
 rw [Zip,h1,Option.bind_some,h2]
theorem ZAo (x:Int):Zx5 x=some (!Zs x):=by
 rw [Zq0,s67,Option.bind_some]
theorem ZoE (l:List Int) (hl:l.length < 2 ^ 63):∃ r,Zfl (Za l)=some r∧cop .geq r 0 = !(l.all Zs):=by
 rw [Ziy,ZJ]
 have:=YF (F:=fun k i=>Kt k (Za l) (l.length:Int) i) (n:=l.length) (fun i=>!atB Zs l i) hl
  (fun k i hi=>by
   show Kt (k+1) _ _ _=_
   rw [ZaS,if_pos (ZZ hi)]
   refine (ZW hi _).trans ?_
   skip
   rw [ZAo l[i],Option.bind_some,ZR hi hl,Jb _ hi])
  (fun k i hi=>by show Kt (k+1) _ _ _=_; rw [ZaS,if_neg (ZY hi)])
 rw [V3] at this
 exact this
theorem ZoI (l:List Int) (hl:l.length < 2 ^ 63):Zf8 (Za l)=some (!(l.all Zs)):=by
 obtain ⟨r,h1,h2⟩:=ZoE l hl
 rw [Zig,h1,Option.bind_some,h2]
theorem ZAn (x:ZiY):Zv5 x.region x.to=some (!Vc x):=by
 rw [Zqg,Zvk,s67,Option.bind_some,Option.bind_some]
 unfold Vc
 cases Z1 x.region <;> rfl
theorem Zob (l:List ZiY) (hl:l.length < 2 ^ 63):∃ r,Zfg (l.map Jw)=some r∧cop .geq r 0 = !(l.all Vc):=by
 rw [Zh0,List.length_map]
 have:=YF (F:=fun k i=>Kz k (l.map Jw) (l.length:Int) i) (n:=l.length) (fun i=>!atB Vc l i) hl
  (fun k i hi=>by
   show Kz (k+1) _ _ _=_
   rw [Za1,if_pos (ZZ hi)]
   refine (YP hi _).trans ?_
   dsimp only
   rw [ZAn l[i],Option.bind_some,ZR hi hl,Jb _ hi])
  (fun k i hi=>by show Kz (k+1) _ _ _=_; rw [Za1,if_neg (ZY hi)])
 rw [V3] at this
 exact this
theorem ZnZ (l:List ZiY) (hl:l.length < 2 ^ 63):Zcs (l.map Jw)=some (!(l.all Vc)):=by
 obtain ⟨r,h1,h2⟩:=Zob l hl
 rw [Zh3,h1,Option.bind_some,h2]
def ltI (a b:Int):Bool:=decide (a < b)
def ZcV (l:List Int):Bool:=l.all Zs&&KO ltI l
theorem s95 (l:List Int) (hl:l.length < 2 ^ 63):g95 (Za l)=some (ZcV l):=by
 rw [Zuh]
 have:=ZL (F:=fun k i=>Zhu k (Za l) i) (n:=l.length) (fin:=some true) (bad:=some false) (fun i=>atB Zs l i&&Vn ltI l i) hl 0 (by omega)
  (fun k i _ hi=>by
   show Zhu (k+1) (Za l) _=_
   rw [ZjT,ZJ,if_pos (ZZ hi)]
   refine (ZW hi _).trans ?_
   rw [ZR hi hl,Jb _ hi]
   generalize Zhu k (Za l) ((i+1:Nat):Int)=X
   cases i with
   | zero =>
    simp only [s90,Option.bind_some,ZmX,Bool.false_eq_true,if_false,Vn,Bool.and_true]
    cases Zs l[0] <;> rfl
   | succ j =>
    simp only [s90,Option.bind_some,ZlC,if_true,ZdY (show j+1 < 2 ^ 63 by omega),ZW (show j < l.length by omega),ZW hi,Ke _ hi]
    generalize l[j+1]=t
    generalize l[j]=u
    unfold ltI
    repeat' split
    all_goals (simp only [CQ] at * <;> grind))
  (fun k i hi=>by show Zhu (k+1) (Za l) _=_; rw [ZjT,ZJ,if_neg (ZY hi)])
 rw [Nat.sub_zero,Zc7] at this
 refine Eq.trans this ?_
 unfold ZcV
 cases (l.all Zs&&KO ltI l) <;> rfl
theorem s99 (l:List ZiY) (hl:l.length < 2 ^ 63):g99 (l.map Jw)=some (l.all Vc&&decide (l.length≤16)):=by
 rw [Ztr]
 have:=ZL (F:=fun k i=>ZiD k (l.map Jw) i) (n:=l.length) (fin:=some (cop .leq (l.length:Int) 16)) (bad:=some false) (atB Vc l) hl 0 (by omega)
  (fun k i _ hi=>by
   show ZiD (k+1) (l.map Jw) _=_
   rw [Zkd,List.length_map,if_pos (ZZ hi)]
   refine (YP hi _).trans ?_
   rw [ZR hi hl,Jb _ hi]
   generalize ZiD k (l.map Jw) ((i+1:Nat):Int)=X
   simp only [ZtG,s90,Option.bind_some,YP hi]
   generalize l[i]=t
   unfold Vc
   cases Z1 t.region <;> cases Zs t.to <;> rfl)
  (fun k i hi=>by show ZiD (k+1) (l.map Jw) _=_; rw [Zkd,List.length_map,if_neg (ZY hi)])
 rw [Nat.sub_zero,ZeS] at this
 refine Eq.trans this ?_
 have e:cop .leq (l.length:Int) 16=decide (l.length≤16):=by rw [Zj]; simp only [CQ]; omega
 rw [e]
 cases l.all Vc <;> rfl
theorem ZzQ (l:List Int) (hl:l.length < 2 ^ 63) (a:Int):∃ r,Zxr (Za l) a=some r∧cop .geq r 0=l.any (fun x=>decide (a=x)):=by
 rw [Zqv,ZJ]
 have:=YF (F:=fun k i=>ZeU k (Za l) a (l.length:Int) i) (n:=l.length) (fun i=>!atB (fun x=>!decide (a=x)) l i) hl
  (fun k i hi=>by
   show ZeU (k+1) _ _ _ _=_
   rw [Zgd,if_pos (ZZ hi)]
   refine (ZW hi _).trans ?_
   rw [ZR hi hl,Jb _ hi,Bool.not_not]
   rfl)
  (fun k i hi=>by show ZeU (k+1) _ _ _ _=_; rw [Zgd,if_neg (ZY hi)])
 rw [V3] at this
 have e:(!(l.all fun x=>!decide (a=x)))=l.any (fun x=>decide (a=x)):=by
  rw [List.any_eq_not_all_not]
 rw [e] at this
 exact this
theorem ZzB (l:List Int) (hl:l.length < 2 ^ 63) (a:Int):ZwC (Za l) a=some (l.any (fun x=>decide (a=x))):=by
 obtain ⟨r,h1,h2⟩:=ZzQ l hl a
 rw [ZrQ,h1,Option.bind_some,h2]
theorem s55 (l:List Int) (hl:l.length < 2 ^ 63) (a:Int):g55 (Za l) a=some (l.any (fun x=>decide (a=x))):=by
 rw [ZuN]
 have:=ZL (F:=fun k i=>ZiR k (Za l) a i) (n:=l.length) (fin:=some false) (bad:=some true) (atB (fun x=>!decide (a=x)) l) hl 0 (by omega)
  (fun k i _ hi=>by
   show ZiR (k+1) (Za l) _ _=_
   rw [ZjB,ZJ,if_pos (ZZ hi)]
   refine (ZW hi _).trans ?_
   rw [ZR hi hl,Jb _ hi]
   generalize ZiR k (Za l) a ((i+1:Nat):Int)=X
   generalize l[i]=t
   by_cases h:a=t
   ·rw [if_pos (by simp only [CQ]; exact h.symm),if_neg (by simp [h])]
   ·rw [if_neg (by simp only [CQ]; exact fun he=>h he.symm),if_pos (by simp [h])])
  (fun k i hi=>by show ZiR (k+1) (Za l) _ _=_; rw [ZjB,ZJ,if_neg (ZY hi)])
 rw [Nat.sub_zero,ZeS] at this
 refine Eq.trans this ?_
 rw [List.any_eq_not_all_not]
 cases l.all (fun x=>!decide (a=x)) <;> rfl
def Zd6 (l:List Int) (i:Nat):Bool:=match l[i]? with | some x=>!((l.take i).any (fun y=>decide (x=y))) | none=>true
def K9 (v:View):Bool:=Jy v.number&&decide (v.members.length≤32)&&decide (v.owners.length≤16)&&(List.range' 0 v.members.length).all (fun i=>atB Zs v.members i&&Zd6 v.members i)&&v.owners.all Zs
theorem Zkg {l:List Int} {i:Nat} (hi:i < l.length):Zd6 l i = !((l.take i).any (fun y=>decide (l[i]=y))):=by
 unfold Zd6; rw [List.getElem?_eq_getElem hi]
theorem Zwl (v:View) (h1:v.members.length < 2 ^ 63) (h2:v.owners.length < 2 ^ 63):ZsG v.number (Za v.members) (Za v.owners)=some (K9 v):=by
 rw [Zrn,ZJ,ZJ,s66,Option.bind_some]
 have:=ZL (F:=fun k i=>Zdt k v.number (Za v.members) (Za v.owners) (Za v.members) (v.members.length:Int) i) (n:=v.members.length) (fin:=some (v.owners.all Zs)) (bad:=some false) (fun i=>atB Zs v.members i&&Zd6 v.members i) h1 0 (by omega)
  (fun k i _ hi=>by
   show Zdt (k+1) _ _ _ _ _ _=_
   rw [Zgv,if_pos (ZZ hi)]
   refine (ZW hi _).trans ?_
   rw [s67,Option.bind_some,Zf (by omega),Zf (by rw [ZJ]; omega),Int.toNat_natCast,Zhl,ZzB _ (by rw [List.length_take]; omega),Option.bind_some,ZR hi h1,Jb _ hi,Zkg hi]
   cases Zs v.members[i] <;> cases (v.members.take i).any (fun y=>decide (v.members[i]=y)) <;> rfl)
  (fun k i hi=>by
   show Zdt (k+1) _ _ _ _ _ _=_
   rw [Zgv,if_neg (ZY hi),ZoI _ h2,Option.bind_some,Bool.not_not])
 rw [Nat.sub_zero] at this
 have this:Zdt Zx v.number (Za v.members) (Za v.owners) (Za v.members) (v.members.length:Int) 0=_:=this
 rw [this]
 unfold K9
 by_cases a1:v.members.length≤32
 ·by_cases a2:v.owners.length≤16
  ·rw [if_neg (show ¬ (cop .gtr (v.members.length:Int) 32)=true by simp only [CQ]; omega),if_neg (show ¬ (cop .gtr (v.owners.length:Int) 16)=true by simp only [CQ]; omega),decide_eq_true a1,decide_eq_true a2]
   cases Jy v.number <;> cases (List.range' 0 v.members.length).all (fun i=>atB Zs v.members i&&Zd6 v.members i) <;> rfl
  ·rw [if_neg (show ¬ (cop .gtr (v.members.length:Int) 32)=true by simp only [CQ]; omega),if_pos (show (cop .gtr (v.owners.length:Int) 16)=true by simp only [CQ]; omega),decide_eq_false a2]
   cases Jy v.number <;> simp
 ·rw [if_pos (show (cop .gtr (v.members.length:Int) 32)=true by simp only [CQ]; omega),decide_eq_false a1]
  cases Jy v.number <;> simp
theorem s97 (v:View) (h1:v.members.length < 2 ^ 63) (h2:v.owners.length < 2 ^ 63):g97 v.number (Za v.members) (Za v.owners)=some (K9 v):=by
 rw [Zuw,ZJ,ZJ,s89,Option.bind_some]
 have l0:=ZL (F:=fun k i=>ZhO k v.number (Za v.members) (Za v.owners) i) (n:=v.owners.length) (fin:=some true) (bad:=some false) (atB Zs v.owners) h2 0 (by omega)
  (fun k i _ hi=>by
   show ZhO (k+1) _ _ _ _=_
   rw [Zjt,ZJ,if_pos (ZZ hi)]
   refine (ZW hi _).trans ?_
   rw [s90,Option.bind_some,ZR hi h2,Jb _ hi]
   cases Zs v.owners[i] <;> rfl)
  (fun k i hi=>by
   show ZhO (k+1) _ _ _ _=_
   rw [Zjt,ZJ,if_neg (ZY hi)])
 rw [Nat.sub_zero,ZeS] at l0
 have l0:ZhO Zx v.number (Za v.members) (Za v.owners) 0=_:=l0
 have:=ZL (F:=fun k i=>Ziv k v.number (Za v.members) (Za v.owners) i) (n:=v.members.length) (fin:=some (v.owners.all Zs)) (bad:=some false) (fun i=>atB Zs v.members i&&Zd6 v.members i) h1 0 (by omega)
  (fun k i _ hi=>by
   show Ziv (k+1) _ _ _ _=_
   rw [Zke,ZJ,if_pos (ZZ hi)]
   refine (ZW hi _).trans ?_
   rw [s90,Option.bind_some,Zf (by omega),Zf (by omega),Int.toNat_natCast,Zhl,ZR hi h1,Jb _ hi,Zkg hi]
   simp only [ZW hi]
   rw [s55 _ (by rw [List.length_take]; omega),Option.bind_some]
   cases Zs v.members[i] <;> cases (v.members.take i).any (fun y=>decide (v.members[i]=y)) <;> rfl)
  (fun k i hi=>by
   show Ziv (k+1) _ _ _ _=_
   rw [Zke,ZJ,if_neg (ZY hi),l0]
   cases v.owners.all Zs <;> rfl)
 rw [Nat.sub_zero] at this
 have this:Ziv Zx v.number (Za v.members) (Za v.owners) 0=_:=this
 rw [this]
 unfold K9
 by_cases a1:v.members.length≤32
 ·by_cases a2:v.owners.length≤16
  ·rw [if_neg (show ¬ (cop .gtr (v.members.length:Int) 32)=true by simp only [CQ]; omega),if_neg (show ¬ (cop .gtr (v.owners.length:Int) 16)=true by simp only [CQ]; omega),decide_eq_true a1,decide_eq_true a2]
   cases Jy v.number <;> cases (List.range' 0 v.members.length).all (fun i=>atB Zs v.members i&&Zd6 v.members i) <;> rfl
  ·rw [if_neg (show ¬ (cop .gtr (v.members.length:Int) 32)=true by simp only [CQ]; omega),if_pos (show (cop .gtr (v.owners.length:Int) 16)=true by simp only [CQ]; omega),decide_eq_false a2]
   cases Jy v.number <;> simp
 ·rw [if_pos (show (cop .gtr (v.members.length:Int) 32)=true by simp only [CQ]; omega),decide_eq_false a1]
  cases Jy v.number <;> simp
structure View.Fits (v:View):Prop where
 members:v.members.length < 2 ^ 63
 owners:v.owners.length < 2 ^ 63
structure Report.Fits (r:Report):Prop where
 view:r.view.Fits
 state:r.state.Fits
 next:r.next.Fits
 proposal:r.proposal.Fits
def Zie (r:Report):Bool:=Zs r.core&&K9 r.view&&YJ r.state&&K9 r.next&&YJ r.proposal
theorem Zy6 (r:Report) (h:r.Fits):Zxu r.core r.view.number (Za r.view.members) (Za r.view.owners) (r.state.slots.map Zg) (r.state.pending.map ZM) (r.state.marks.map Zk) (r.state.answers.map ZS) (r.state.entries.map Ze) (Zb r.state.commits) r.ready r.next.number (Za r.next.members) (Za r.next.owners) (r.proposal.slots.map Zg) (r.proposal.pending.map ZM) (r.proposal.marks.map Zk) (r.proposal.answers.map ZS) (r.proposal.entries.map Ze) (Zb r.proposal.commits)=some (Zie r):=by
 rw [ZpY,s67,Option.bind_some,Zwl _ h.view.members h.view.owners,Option.bind_some,Zv6 _ h.state,Option.bind_some,Zwl _ h.next.members h.next.owners,Option.bind_some,Zv6 _ h.proposal,Option.bind_some]
 unfold Zie
 cases Zs r.core <;> cases K9 r.view <;> cases YJ r.state <;> cases K9 r.next <;> cases YJ r.proposal <;> rfl
theorem s96 (r:Report) (h:r.Fits):g96 r.core r.view.number (Za r.view.members) (Za r.view.owners) (r.state.slots.map Zg) (r.state.pending.map ZM) (r.state.marks.map Zk) (r.state.answers.map ZS) (r.state.entries.map Ze) (Zb r.state.commits) r.ready r.next.number (Za r.next.members) (Za r.next.owners) (r.proposal.slots.map Zg) (r.proposal.pending.map ZM) (r.proposal.marks.map Zk) (r.proposal.answers.map ZS) (r.proposal.entries.map Ze) (Zb r.proposal.commits)=some (Zie r):=by
 rw [Ztp,s90,Option.bind_some,s97 _ h.view.members h.view.owners,Option.bind_some,s98 _ h.state,Option.bind_some,s97 _ h.next.members h.next.owners,Option.bind_some,s98 _ h.proposal,Option.bind_some]
 unfold Zie
 cases Zs r.core <;> cases K9 r.view <;> cases YJ r.state <;> cases K9 r.next <;> cases YJ r.proposal <;> rfl
end Go.Proofs.YtljejgmcgddppaaGreat
end

section
namespace Go.Proofs.YtljejgmcgddppaaGreat
open Go Go.AM
set_option linter.unusedSimpArgs false
set_option linter.unusedVariables false
set_option maxRecDepth 100000
structure Msg where
 kind:Int
 view:Int
 frm:Int
 to:Int
 round:Int
 region:Int
 slot:Int
 op:Id
 err:Int
 settled:Bool
 req:Req
 ids:List Id
 nodes:List Y4
 cores:List Int
 moves:List ZiY
 base:Int
 next:View
 state:State
 report:Report
structure Msg.Fits (m:Msg):Prop where
 req:m.req.src.path.length < 2 ^ 63
 ids:m.ids.length < 2 ^ 63
 nodes:m.nodes.length < 2 ^ 63
 node:∀ x∈m.nodes,x.path.length < 2 ^ 63
 cores:m.cores.length < 2 ^ 63
 moves:m.moves.length < 2 ^ 63
 next:m.next.Fits
 state:m.state.Fits
 report:m.report.Fits
def Znt (m:Msg):Qt2:=(m.kind,m.view,m.frm,m.to,m.round,m.region,m.slot,m.op.core,m.op.op,m.op.part,m.err,m.settled,m.req.id.core,m.req.id.op,m.req.id.part,m.req.call.kind,m.req.call.slot,m.req.call.dest,m.req.call.core,m.req.call.mask,m.req.call.object,m.req.call.bits,m.req.call.level,m.req.call.offset,m.req.call.count,m.req.call.index,m.req.call.addr,m.req.region,m.req.width,m.req.src.id.core,m.req.src.id.op,m.req.src.id.part,(Zb m.req.src.path),m.req.src.cap.kind,m.req.src.cap.base,m.req.src.cap.bits,m.req.src.cap.rights,m.req.src.cap.width,m.req.src.cap.level,m.req.src.cap.device,(Zb m.ids),(m.nodes.map Ju),(Za m.cores),(m.moves.map Jw),m.base,m.next.number,(Za m.next.members),(Za m.next.owners),(m.state.slots.map Zg),(m.state.pending.map ZM),(m.state.marks.map Zk),(m.state.answers.map ZS),(m.state.entries.map Ze),(Zb m.state.commits),m.report.core,m.report.view.number,(Za m.report.view.members),(Za m.report.view.owners),(m.report.state.slots.map Zg),(m.report.state.pending.map ZM),(m.report.state.marks.map Zk),(m.report.state.answers.map ZS),(m.report.state.entries.map Ze),(Zb m.report.state.commits),m.report.ready,m.report.next.number,(Za m.report.next.members),(Za m.report.next.owners),(m.report.proposal.slots.map Zg),(m.report.proposal.pending.map ZM),(m.report.proposal.marks.map Zk),(m.report.proposal.answers.map ZS),(m.report.proposal.entries.map Ze),(Zb m.report.proposal.commits))
def ZsF:Call:=⟨0,0,0,0,0,0,0,0,0,0,0,0⟩
def Z5:Req:=⟨zid,ZsF,0,0,ZX⟩
def ZC:View:=⟨0,[],[]⟩
def Zl:State:=⟨[],[],[],[],[],[]⟩
def Zm:Report:=⟨0,ZC,Zl,false,ZC,Zl⟩
def clr (m:Msg):Nat→Msg
 | 0 => { m with region := 0 }
 | 1 => { m with req := Z5 }
 | 2 => { m with op := zid }
 | 3 => { m with err := 0 }
 | 4 => { m with settled := false }
 | 5 => { m with nodes := [] }
 | 6 => { m with slot := 0 }
 | 7 => { m with ids := [] }
 | 8 => { m with round := 0 }
 | 9 => { m with cores := [] }
 | 10 => { m with report := Zm }
 | 11 => { m with base := 0 }
 | 12 => { m with next := ZC }
 | 13 => { m with state := Zl }
 | 14 => { m with moves := [] }
 | _ => m
theorem s69 (m:Msg):∀ f:Nat,f < 15→g69 m.kind m.view m.frm m.to m.round m.region m.slot m.op.core m.op.op m.op.part m.err m.settled m.req.id.core m.req.id.op m.req.id.part m.req.call.kind m.req.call.slot m.req.call.dest m.req.call.core m.req.call.mask m.req.call.object m.req.call.bits m.req.call.level m.req.call.offset m.req.call.count m.req.call.index m.req.call.addr m.req.region m.req.width m.req.src.id.core m.req.src.id.op m.req.src.id.part (Zb m.req.src.path) m.req.src.cap.kind m.req.src.cap.base m.req.src.cap.bits m.req.src.cap.rights m.req.src.cap.width m.req.src.cap.level m.req.src.cap.device (Zb m.ids) (m.nodes.map Ju) (Za m.cores) (m.moves.map Jw) m.base m.next.number (Za m.next.members) (Za m.next.owners) (m.state.slots.map Zg) (m.state.pending.map ZM) (m.state.marks.map Zk) (m.state.answers.map ZS) (m.state.entries.map Ze) (Zb m.state.commits) m.report.core m.report.view.number (Za m.report.view.members) (Za m.report.view.owners) (m.report.state.slots.map Zg) (m.report.state.pending.map ZM) (m.report.state.marks.map Zk) (m.report.state.answers.map ZS) (m.report.state.entries.map Ze) (Zb m.report.state.commits) m.report.ready m.report.next.number (Za m.report.next.members) (Za m.report.next.owners) (m.report.proposal.slots.map Zg) (m.report.proposal.pending.map ZM) (m.report.proposal.marks.map Zk) (m.report.proposal.answers.map ZS) (m.report.proposal.entries.map Ze) (Zb m.report.proposal.commits) (f:Int)=some (Znt (clr m f))
 | 0, _ => by rw [KM]; rfl
 | 1, _ => by rw [KM]; rfl
 | 2, _ => by rw [KM]; rfl
 | 3, _ => by rw [KM]; rfl
 | 4, _ => by rw [KM]; rfl
 | 5, _ => by rw [KM]; rfl
 | 6, _ => by rw [KM]; rfl
 | 7, _ => by rw [KM]; rfl
 | 8, _ => by rw [KM]; rfl
 | 9, _ => by rw [KM]; rfl
 | 10, _ => by rw [KM]; rfl
 | 11, _ => by rw [KM]; rfl
 | 12, _ => by rw [KM]; rfl
 | 13, _ => by rw [KM]; rfl
 | 14, _ => by rw [KM]; rfl
theorem ZzX (m:Msg) {j:Nat} (hj:j+1 < m.cores.length):ZxU (j:Int) ((j+1:Nat):Int) m.kind m.view m.frm m.to m.round m.region m.slot m.op.core m.op.op m.op.part m.err m.settled m.req.id.core m.req.id.op m.req.id.part m.req.call.kind m.req.call.slot m.req.call.dest m.req.call.core m.req.call.mask m.req.call.object m.req.call.bits m.req.call.level m.req.call.offset m.req.call.count m.req.call.index m.req.call.addr m.req.region m.req.width m.req.src.id.core m.req.src.id.op m.req.src.id.part (Zb m.req.src.path) m.req.src.cap.kind m.req.src.cap.base m.req.src.cap.bits m.req.src.cap.rights m.req.src.cap.width m.req.src.cap.level m.req.src.cap.device (Zb m.ids) (m.nodes.map Ju) (Za m.cores) (m.moves.map Jw) m.base m.next.number (Za m.next.members) (Za m.next.owners) (m.state.slots.map Zg) (m.state.pending.map ZM) (m.state.marks.map Zk) (m.state.answers.map ZS) (m.state.entries.map Ze) (Zb m.state.commits) m.report.core m.report.view.number (Za m.report.view.members) (Za m.report.view.owners) (m.report.state.slots.map Zg) (m.report.state.pending.map ZM) (m.report.state.marks.map Zk) (m.report.state.answers.map ZS) (m.report.state.entries.map Ze) (Zb m.report.state.commits) m.report.ready m.report.next.number (Za m.report.next.members) (Za m.report.next.owners) (m.report.proposal.slots.map Zg) (m.report.proposal.pending.map ZM) (m.report.proposal.marks.map Zk) (m.report.proposal.answers.map ZS) (m.report.proposal.entries.map Ze) (Zb m.report.proposal.commits)=some (ltI m.cores[j] m.cores[j+1],Znt m):=by
 rw [ZrK]
 refine (ZW (show j < m.cores.length by omega) _).trans ?_
 refine (ZW hj _).trans ?_
 rfl
theorem ZoC (m:Msg) (h:m.Fits):Zcv (m.cores.length:Int) m.kind m.view m.frm m.to m.round m.region m.slot m.op.core m.op.op m.op.part m.err m.settled m.req.id.core m.req.id.op m.req.id.part m.req.call.kind m.req.call.slot m.req.call.dest m.req.call.core m.req.call.mask m.req.call.object m.req.call.bits m.req.call.level m.req.call.offset m.req.call.count m.req.call.index m.req.call.addr m.req.region m.req.width m.req.src.id.core m.req.src.id.op m.req.src.id.part (Zb m.req.src.path) m.req.src.cap.kind m.req.src.cap.base m.req.src.cap.bits m.req.src.cap.rights m.req.src.cap.width m.req.src.cap.level m.req.src.cap.device (Zb m.ids) (m.nodes.map Ju) (Za m.cores) (m.moves.map Jw) m.base m.next.number (Za m.next.members) (Za m.next.owners) (m.state.slots.map Zg) (m.state.pending.map ZM) (m.state.marks.map Zk) (m.state.answers.map ZS) (m.state.entries.map Ze) (Zb m.state.commits) m.report.core m.report.view.number (Za m.report.view.members) (Za m.report.view.owners) (m.report.state.slots.map Zg) (m.report.state.pending.map ZM) (m.report.state.marks.map Zk) (m.report.state.answers.map ZS) (m.report.state.entries.map Ze) (Zb m.report.state.commits) m.report.ready m.report.next.number (Za m.report.next.members) (Za m.report.next.owners) (m.report.proposal.slots.map Zg) (m.report.proposal.pending.map ZM) (m.report.proposal.marks.map Zk) (m.report.proposal.answers.map ZS) (m.report.proposal.entries.map Ze) (Zb m.report.proposal.commits)=some (KO ltI m.cores,Znt m):=by
 rw [ZhH]
 have:=ZL (F:=fun k i=>Wl k (m.cores.length:Int) i m.kind m.view m.frm m.to m.round m.region m.slot m.op.core m.op.op m.op.part m.err m.settled m.req.id.core m.req.id.op m.req.id.part m.req.call.kind m.req.call.slot m.req.call.dest m.req.call.core m.req.call.mask m.req.call.object m.req.call.bits m.req.call.level m.req.call.offset m.req.call.count m.req.call.index m.req.call.addr m.req.region m.req.width m.req.src.id.core m.req.src.id.op m.req.src.id.part (Zb m.req.src.path) m.req.src.cap.kind m.req.src.cap.base m.req.src.cap.bits m.req.src.cap.rights m.req.src.cap.width m.req.src.cap.level m.req.src.cap.device (Zb m.ids) (m.nodes.map Ju) (Za m.cores) (m.moves.map Jw) m.base m.next.number (Za m.next.members) (Za m.next.owners) (m.state.slots.map Zg) (m.state.pending.map ZM) (m.state.marks.map Zk) (m.state.answers.map ZS) (m.state.entries.map Ze) (Zb m.state.commits) m.report.core m.report.view.number (Za m.report.view.members) (Za m.report.view.owners) (m.report.state.slots.map Zg) (m.report.state.pending.map ZM) (m.report.state.marks.map Zk) (m.report.state.answers.map ZS) (m.report.state.entries.map Ze) (Zb m.report.state.commits) m.report.ready m.report.next.number (Za m.report.next.members) (Za m.report.next.owners) (m.report.proposal.slots.map Zg) (m.report.proposal.pending.map ZM) (m.report.proposal.marks.map Zk) (m.report.proposal.answers.map ZS) (m.report.proposal.entries.map Ze) (Zb m.report.proposal.commits)) (n:=m.cores.length) (fin:=some (true,Znt m)) (bad:=some (false,Znt m)) (Vn ltI m.cores) h.cores 1 (by omega)
  (fun k i h1 hi=>by
   obtain ⟨j,rfl⟩:∃ j,i=j+1:=⟨i - 1,by omega⟩
   refine (ZaA ..).trans ?_
   rw [if_pos (ZZ hi),ZdY (by have:=h.cores; omega),ZzX m hi,Option.bind_some,ZR hi h.cores,Ke _ hi]
   cases ltI m.cores[j] m.cores[j+1] <;> rfl)
  (fun k i hi=>by refine (ZaA ..).trans ?_; rw [if_neg (ZY hi)]; rfl)
 rw [Ztu] at this
 refine Eq.trans this ?_
 cases KO ltI m.cores <;> rfl
def Zh (m:Msg):Nat→Bool
 | 0 => Z1 m.region
 | 1 => KS m.req
 | 2 => Za2 m.op
 | 3 => ZcD m.err
 | 5 => decide (m.nodes.length ≤ 8) && (decide (m.kind ≠ 4) || decide (m.nodes.length = 1)) && m.nodes.all ZF
 | 6 => Jl m.slot
 | 7 => decide (m.ids.length ≤ 64) && m.ids.all Wo
 | 8 => Jy m.round
 | 9 => ZcV m.cores
 | 10 => Zie m.report
 | 11 => Jy m.base
 | 12 => K9 m.next
 | 13 => YJ m.state
 | 14 => decide (m.moves.length ≤ 16) && m.moves.all Vc
 | _ => true
theorem s68 (m:Msg) (h:m.Fits):∀ f:Nat,f < 15→g68 m.kind m.view m.frm m.to m.round m.region m.slot m.op.core m.op.op m.op.part m.err m.settled m.req.id.core m.req.id.op m.req.id.part m.req.call.kind m.req.call.slot m.req.call.dest m.req.call.core m.req.call.mask m.req.call.object m.req.call.bits m.req.call.level m.req.call.offset m.req.call.count m.req.call.index m.req.call.addr m.req.region m.req.width m.req.src.id.core m.req.src.id.op m.req.src.id.part (Zb m.req.src.path) m.req.src.cap.kind m.req.src.cap.base m.req.src.cap.bits m.req.src.cap.rights m.req.src.cap.width m.req.src.cap.level m.req.src.cap.device (Zb m.ids) (m.nodes.map Ju) (Za m.cores) (m.moves.map Jw) m.base m.next.number (Za m.next.members) (Za m.next.owners) (m.state.slots.map Zg) (m.state.pending.map ZM) (m.state.marks.map Zk) (m.state.answers.map ZS) (m.state.entries.map Ze) (Zb m.state.commits) m.report.core m.report.view.number (Za m.report.view.members) (Za m.report.view.owners) (m.report.state.slots.map Zg) (m.report.state.pending.map ZM) (m.report.state.marks.map Zk) (m.report.state.answers.map ZS) (m.report.state.entries.map Ze) (Zb m.report.state.commits) m.report.ready m.report.next.number (Za m.report.next.members) (Za m.report.next.owners) (m.report.proposal.slots.map Zg) (m.report.proposal.pending.map ZM) (m.report.proposal.marks.map Zk) (m.report.proposal.answers.map ZS) (m.report.proposal.entries.map Ze) (Zb m.report.proposal.commits) (f:Int)=some (Zh m f)
 | 0, _ => by
   refine (KN ..).trans ?_
   exact (congrArg (fun x=>Option.bind x some) (Zvk _))
 | 1, _ => by
   refine (KN ..).trans ?_
   exact (congrArg (fun x=>Option.bind x some) (Zyw _ h.req))
 | 2, _ => by
   refine (KN ..).trans ?_
   exact (congrArg (fun x=>Option.bind x some) (ZvO _))
 | 3, _ => by
   refine (KN ..).trans ?_
   exact (congrArg (fun x=>Option.bind x some) (Zyz _))
 | 4, _ => by
   refine (KN ..).trans ?_
   rfl
 | 5, _ => by
   refine (KN ..).trans ?_
   show (if (cop .gtr ((m.nodes.map Ju).length:Int) 8)=true then some false else if (cop .eql m.kind 4)=true then (if (cop .neq ((m.nodes.map Ju).length:Int) 1)=true then some false else (Wr (m.nodes.map Ju)).bind fun r=>some (!r)) else (Wr (m.nodes.map Ju)).bind fun r=>some (!r))=_
   rw [List.length_map,ZnF _ h.nodes h.node]
   repeat' split
   all_goals (refine congrArg some ?_; rw [Zj]; simp only [Zh,Bool.not_not,CQ] at * <;> grind)
 | 6, _ => by
   refine (KN ..).trans ?_
   exact (congrArg (fun x=>Option.bind x some) (ZyR _))
 | 7, _ => by
   refine (KN ..).trans ?_
   show (if (cop .leq ((Zb m.ids).length:Int) 64)=true then (Zb9 (Zb m.ids)).bind fun r=>some (!r) else some false)=_
   rw [Z0,Zoy _ h.ids]
   repeat' split
   all_goals (refine congrArg some ?_; rw [Zj]; simp only [Zh,Bool.not_not,CQ] at * <;> grind)
 | 8, _ => by
   refine (KN ..).trans ?_
   exact (congrArg (fun x=>Option.bind x some) (s66 _))
 | 9, _ => by
   refine (KN ..).trans ?_
   show ((Zcu (Za m.cores)).bind fun (r:Bool)=>if (!r)=true then (Zcv ((Za m.cores).length:Int) m.kind m.view m.frm m.to m.round m.region m.slot m.op.core m.op.op m.op.part m.err m.settled m.req.id.core m.req.id.op m.req.id.part m.req.call.kind m.req.call.slot m.req.call.dest m.req.call.core m.req.call.mask m.req.call.object m.req.call.bits m.req.call.level m.req.call.offset m.req.call.count m.req.call.index m.req.call.addr m.req.region m.req.width m.req.src.id.core m.req.src.id.op m.req.src.id.part (Zb m.req.src.path) m.req.src.cap.kind m.req.src.cap.base m.req.src.cap.bits m.req.src.cap.rights m.req.src.cap.width m.req.src.cap.level m.req.src.cap.device (Zb m.ids) (m.nodes.map Ju) (Za m.cores) (m.moves.map Jw) m.base m.next.number (Za m.next.members) (Za m.next.owners) (m.state.slots.map Zg) (m.state.pending.map ZM) (m.state.marks.map Zk) (m.state.answers.map ZS) (m.state.entries.map Ze) (Zb m.state.commits) m.report.core m.report.view.number (Za m.report.view.members) (Za m.report.view.owners) (m.report.state.slots.map Zg) (m.report.state.pending.map ZM) (m.report.state.marks.map Zk) (m.report.state.answers.map ZS) (m.report.state.entries.map Ze) (Zb m.report.state.commits) m.report.ready m.report.next.number (Za m.report.next.members) (Za m.report.next.owners) (m.report.proposal.slots.map Zg) (m.report.proposal.pending.map ZM) (m.report.proposal.marks.map Zk) (m.report.proposal.answers.map ZS) (m.report.proposal.entries.map Ze) (Zb m.report.proposal.commits)).bind fun r=>some r.1 else some false)=_
   rw [Zn6 _ h.cores,ZJ,ZoC m h,Option.bind_some,Option.bind_some]
   show _=some (m.cores.all Zs&&KO ltI m.cores)
   cases m.cores.all Zs <;> rfl
 | 10, _ => by
   refine (KN ..).trans ?_
   exact (congrArg (fun x=>Option.bind x some) (Zy6 _ h.report))
 | 11, _ => by
   refine (KN ..).trans ?_
   exact (congrArg (fun x=>Option.bind x some) (s66 _))
 | 12, _ => by
   refine (KN ..).trans ?_
   exact (congrArg (fun x=>Option.bind x some) (Zwl _ h.next.members h.next.owners))
 | 13, _ => by
   refine (KN ..).trans ?_
   exact (congrArg (fun x=>Option.bind x some) (Zv6 _ h.state))
 | 14, _ => by
   refine (KN ..).trans ?_
   show (if (cop .leq ((m.moves.map Jw).length:Int) 16)=true then (Zcs (m.moves.map Jw)).bind fun r=>some (!r) else some false)=_
   rw [List.length_map,ZnZ _ h.moves]
   repeat' split
   all_goals (refine congrArg some ?_; rw [Zj]; simp only [Zh,Bool.not_not,CQ] at * <;> grind)
def Zsf (r:Req):Bool:=decide (r.id=zid)&&decide (r.call.kind=0∧r.call.slot=0∧r.call.dest=0∧r.call.core=0∧r.call.mask=0∧r.call.object=0∧r.call.bits=0∧r.call.level=0∧r.call.offset=0∧r.call.count=0∧r.call.index=0∧r.call.addr=0)&&decide (r.region=0)&&decide (r.width=0)&&KT r.src ZX
def ZdX (v:View):Bool:=decide (v.number=0)&&decide (v.members.length=0)&&decide (v.owners.length=0)
def Za0 (s:State):Bool:=decide (s.slots.length=0)&&decide (s.pending.length=0)&&decide (s.marks.length=0)&&decide (s.answers.length=0)&&decide (s.entries.length=0)&&decide (s.commits.length=0)
def Zbw (r:Report):Bool:=decide (r.core=0)&&ZdX r.view&&Za0 r.state&&!r.ready&&ZdX r.next&&Za0 r.proposal
theorem Zlu (n:Nat):cop .eql (n:Int) 0=decide (n=0):=by rw [Zj]; simp only [CQ]; omega
theorem Zqk (z:Int):cop .eql z 0=decide (z=0):=rfl
theorem ZzN (r:Req) (h:r.src.path.length < 2 ^ 63):ZwL r.id.core r.id.op r.id.part r.call.kind r.call.slot r.call.dest r.call.core r.call.mask r.call.object r.call.bits r.call.level r.call.offset r.call.count r.call.index r.call.addr r.region r.width r.src.id.core r.src.id.op r.src.id.part (Zb r.src.path) r.src.cap.kind r.src.cap.base r.src.cap.bits r.src.cap.rights r.src.cap.width r.src.cap.level r.src.cap.device=some (Zsf r):=by
 rw [Zqj,ZqX _ h,Option.bind_some]
 simp only [Ya,Kj]
 unfold Zsf
 repeat' split
 all_goals (refine congrArg some ?_; rw [Zj]; simp only [CQ] at * <;> grind)
theorem ZxY (v:View):Zuc v.number (Za v.members) (Za v.owners)=some (ZdX v):=by
 rw [ZqV,ZJ,ZJ,Zlu,Zlu,Zqk]
 unfold ZdX
 cases decide (v.number=0) <;> cases decide (v.members.length=0) <;> rfl
theorem Zwe (s:State):Zti (s.slots.map Zg) (s.pending.map ZM) (s.marks.map Zk) (s.answers.map ZS) (s.entries.map Ze) (Zb s.commits)=some (Za0 s):=by
 rw [Zql,List.length_map,List.length_map,List.length_map,List.length_map,List.length_map,Z0,Zlu,Zlu,Zlu,Zlu,Zlu,Zlu]
 unfold Za0
 cases decide (s.slots.length=0) <;> cases decide (s.pending.length=0) <;> cases decide (s.marks.length=0) <;> cases decide (s.answers.length=0) <;> cases decide (s.entries.length=0) <;> rfl
theorem ZzO (r:Report):ZwK r.core r.view.number (Za r.view.members) (Za r.view.owners) (r.state.slots.map Zg) (r.state.pending.map ZM) (r.state.marks.map Zk) (r.state.answers.map ZS) (r.state.entries.map Ze) (Zb r.state.commits) r.ready r.next.number (Za r.next.members) (Za r.next.owners) (r.proposal.slots.map Zg) (r.proposal.pending.map ZM) (r.proposal.marks.map Zk) (r.proposal.answers.map ZS) (r.proposal.entries.map Ze) (Zb r.proposal.commits)=some (Zbw r):=by
 rw [ZqU,ZxY,Zwe,ZxY,Zwe,Zqk,Option.bind_some,Option.bind_some,Option.bind_some,Option.bind_some]
 unfold Zbw
 cases decide (r.core=0) <;> cases ZdX r.view <;> cases Za0 r.state <;> cases r.ready <;> cases ZdX r.next <;> rfl
def zf (m:Msg):Nat→Bool
 | 0 => decide (m.region = 0)
 | 1 => Zsf m.req
 | 2 => decide (m.op = zid)
 | 3 => decide (m.err = 0)
 | 4 => !m.settled
 | 5 => decide (m.nodes.length = 0)
 | 6 => decide (m.slot = 0)
 | 7 => decide (m.ids.length = 0)
 | 8 => decide (m.round = 0)
 | 9 => decide (m.cores.length = 0)
 | 10 => Zbw m.report
 | 11 => decide (m.base = 0)
 | 12 => ZdX m.next
 | 13 => Za0 m.state
 | 14 => decide (m.moves.length = 0)
 | _ => true
def Zx4 (m:Msg):Bool:=(List.range 15).all (zf m)
theorem Jv (b:Bool) {y:Bool} {x:Option Bool} (h:x=some y):(if b=true then x else some false)=some (b&&y):=by cases b <;> simp [h]
theorem s70 (m:Msg) (h:m.req.src.path.length < 2 ^ 63):g70 m.kind m.view m.frm m.to m.round m.region m.slot m.op.core m.op.op m.op.part m.err m.settled m.req.id.core m.req.id.op m.req.id.part m.req.call.kind m.req.call.slot m.req.call.dest m.req.call.core m.req.call.mask m.req.call.object m.req.call.bits m.req.call.level m.req.call.offset m.req.call.count m.req.call.index m.req.call.addr m.req.region m.req.width m.req.src.id.core m.req.src.id.op m.req.src.id.part (Zb m.req.src.path) m.req.src.cap.kind m.req.src.cap.base m.req.src.cap.bits m.req.src.cap.rights m.req.src.cap.width m.req.src.cap.level m.req.src.cap.device (Zb m.ids) (m.nodes.map Ju) (Za m.cores) (m.moves.map Jw) m.base m.next.number (Za m.next.members) (Za m.next.owners) (m.state.slots.map Zg) (m.state.pending.map ZM) (m.state.marks.map Zk) (m.state.answers.map ZS) (m.state.entries.map Ze) (Zb m.state.commits) m.report.core m.report.view.number (Za m.report.view.members) (Za m.report.view.owners) (m.report.state.slots.map Zg) (m.report.state.pending.map ZM) (m.report.state.marks.map Zk) (m.report.state.answers.map ZS) (m.report.state.entries.map Ze) (Zb m.report.state.commits) m.report.ready m.report.next.number (Za m.report.next.members) (Za m.report.next.owners) (m.report.proposal.slots.map Zg) (m.report.proposal.pending.map ZM) (m.report.proposal.marks.map Zk) (m.report.proposal.answers.map ZS) (m.report.proposal.entries.map Ze) (Zb m.report.proposal.commits)=some (Zx4 m):=by
 rw [Zt2,ZzN _ h,ZxY,Zwe,ZzO,Z0,List.length_map,ZJ,List.length_map,Zlu,Zlu,Zlu,Zlu,Zqk m.round,Zqk m.region,Zqk m.slot,Zqk m.err,Zqk m.base]
 have e:((cop .eql m.op.core 0)&&((cop .eql m.op.op 0)&&((cop .eql m.op.part 0)&&true)))=decide (m.op=zid):=by
  rw [Zj,Ya,Kj,decide_eq_true_eq]
 rw [e]
 simp only [Option.bind_some]
 refine Eq.trans (Jv _ (Jv _ (Jv _ (Jv _ (Jv _ (Jv _ (Jv _ (Jv _ (Jv _ (Jv _ (Jv _ (Jv _ (Jv _ (Jv _ (rfl))))))))))))))) ?_
 refine congrArg some ?_
 show _=(zf m 0&&(zf m 1&&(zf m 2&&(zf m 3&&(zf m 4&&(zf m 5&&(zf m 6&&(zf m 7&&(zf m 8&&(zf m 9&&(zf m 10&&(zf m 11&&(zf m 12&&(zf m 13&&(zf m 14&&true)))))))))))))))
 simp only [zf,Bool.and_true]
 ac_rfl
end Go.Proofs.YtljejgmcgddppaaGreat
end

section
namespace Go.Proofs.YtljejgmcgddppaaGreat
open Go Go.AM
set_option linter.unusedSimpArgs false
set_option linter.unusedVariables false
set_option maxRecDepth 100000
def kf:Nat→List Nat
 | 1 => [0, 1]
 | 2 => [0, 2, 3, 4, 5]
 | 3 => [0, 2]
 | 4 => [0, 2, 6, 5]
 | 5 => [0, 2, 3]
 | 6 => [0, 2, 7]
 | 7 => [0, 2]
 | 8 => [0, 2]
 | 9 => [0, 2]
 | 10 => [0, 2]
 | 11 => [0, 2]
 | 12 => [8, 9]
 | 13 => [8, 10]
 | 14 => [8, 11, 9, 12, 13]
 | 15 => [8]
 | 16 => [8]
 | 17 => [9, 14]
 | _ => []
def fc (l:List Nat):List (List AV):=l.map fun f:Nat=>[I (f:Int)]
theorem s65:∀ n:Nat,1≤n→n≤17→g65 (n:Int)=some (fc (kf n),true)
 | 1, _, _ => by rw [YO]; rfl
 | 2, _, _ => by rw [YO]; rfl
 | 3, _, _ => by rw [YO]; rfl
 | 4, _, _ => by rw [YO]; rfl
 | 5, _, _ => by rw [YO]; rfl
 | 6, _, _ => by rw [YO]; rfl
 | 7, _, _ => by rw [YO]; rfl
 | 8, _, _ => by rw [YO]; rfl
 | 9, _, _ => by rw [YO]; rfl
 | 10, _, _ => by rw [YO]; rfl
 | 11, _, _ => by rw [YO]; rfl
 | 12, _, _ => by rw [YO]; rfl
 | 13, _, _ => by rw [YO]; rfl
 | 14, _, _ => by rw [YO]; rfl
 | 15, _, _ => by rw [YO]; rfl
 | 16, _, _ => by rw [YO]; rfl
 | 17, _, _ => by rw [YO]; rfl
 | n + 18, _, h => absurd h (by omega)
theorem ZzT (k:Int) (h:¬ (1≤k∧k≤17)):g65 k=some (([] : List (List AV)),false):=by
 rw [YO]
 rw [if_neg (show ¬ (cop .eql k 1)=true by simp only [CQ]; omega)]
 rw [if_neg (show ¬ (cop .eql k 2)=true by simp only [CQ]; omega)]
 rw [if_neg (show ¬ (cop .eql k 3)=true by simp only [CQ]; omega)]
 rw [if_neg (show ¬ (cop .eql k 7)=true by simp only [CQ]; omega)]
 rw [if_neg (show ¬ (cop .eql k 8)=true by simp only [CQ]; omega)]
 rw [if_neg (show ¬ (cop .eql k 9)=true by simp only [CQ]; omega)]
 rw [if_neg (show ¬ (cop .eql k 10)=true by simp only [CQ]; omega)]
 rw [if_neg (show ¬ (cop .eql k 11)=true by simp only [CQ]; omega)]
 rw [if_neg (show ¬ (cop .eql k 4)=true by simp only [CQ]; omega)]
 rw [if_neg (show ¬ (cop .eql k 5)=true by simp only [CQ]; omega)]
 rw [if_neg (show ¬ (cop .eql k 6)=true by simp only [CQ]; omega)]
 rw [if_neg (show ¬ (cop .eql k 12)=true by simp only [CQ]; omega)]
 rw [if_neg (show ¬ (cop .eql k 13)=true by simp only [CQ]; omega)]
 rw [if_neg (show ¬ (cop .eql k 14)=true by simp only [CQ]; omega)]
 rw [if_neg (show ¬ (cop .eql k 15)=true by simp only [CQ]; omega)]
 rw [if_neg (show ¬ (cop .eql k 16)=true by simp only [CQ]; omega)]
 rw [if_neg (show ¬ (cop .eql k 17)=true by simp only [CQ]; omega)]
theorem ZxB (n:Nat):∀ f∈kf n,f < 15:=by
 intro f hf
 unfold kf at hf
 split at hf <;> simp at hf <;> omega
theorem ZpZ {γ:Type} {l:List Nat} {i:Nat} (h:i < l.length) (k:Int→Option γ):Zi (fc l) (i:Int) [.int .i64] k=k (l[i] : Int):=J6 (f:=fun n:Nat=>[I (n:Int)]) (sh:=[.int .i64]) (v:=fun n:Nat=>(n:Int)) (fun _=>rfl) h k
theorem Zpg (r:Msg) (f:Nat) (h:r.req.src.path.length < 2 ^ 63):(clr r f).req.src.path.length < 2 ^ 63:=by
 unfold clr
 split <;> first | exact h | (show ([] : List Id).length < 2 ^ 63; simp)
theorem l40 (m:Msg) (h:m.Fits) (L:List Nat) (hL:∀ f∈L,f < 15) (hn:L.length < 2 ^ 63):∀ (j i fuel:Nat) (r:Msg),L.length=i+j→j < fuel→r.req.src.path.length < 2 ^ 63→
  Zph fuel m.kind m.view m.frm m.to m.round m.region m.slot m.op.core m.op.op m.op.part m.err m.settled m.req.id.core m.req.id.op m.req.id.part m.req.call.kind m.req.call.slot m.req.call.dest m.req.call.core m.req.call.mask m.req.call.object m.req.call.bits m.req.call.level m.req.call.offset m.req.call.count m.req.call.index m.req.call.addr m.req.region m.req.width m.req.src.id.core m.req.src.id.op m.req.src.id.part (Zb m.req.src.path) m.req.src.cap.kind m.req.src.cap.base m.req.src.cap.bits m.req.src.cap.rights m.req.src.cap.width m.req.src.cap.level m.req.src.cap.device (Zb m.ids) (m.nodes.map Ju) (Za m.cores) (m.moves.map Jw) m.base m.next.number (Za m.next.members) (Za m.next.owners) (m.state.slots.map Zg) (m.state.pending.map ZM) (m.state.marks.map Zk) (m.state.answers.map ZS) (m.state.entries.map Ze) (Zb m.state.commits) m.report.core m.report.view.number (Za m.report.view.members) (Za m.report.view.owners) (m.report.state.slots.map Zg) (m.report.state.pending.map ZM) (m.report.state.marks.map Zk) (m.report.state.answers.map ZS) (m.report.state.entries.map Ze) (Zb m.report.state.commits) m.report.ready m.report.next.number (Za m.report.next.members) (Za m.report.next.owners) (m.report.proposal.slots.map Zg) (m.report.proposal.pending.map ZM) (m.report.proposal.marks.map Zk) (m.report.proposal.answers.map ZS) (m.report.proposal.entries.map Ze) (Zb m.report.proposal.commits) r.kind r.view r.frm r.to r.round r.region r.slot r.op.core r.op.op r.op.part r.err r.settled r.req.id.core r.req.id.op r.req.id.part r.req.call.kind r.req.call.slot r.req.call.dest r.req.call.core r.req.call.mask r.req.call.object r.req.call.bits r.req.call.level r.req.call.offset r.req.call.count r.req.call.index r.req.call.addr r.req.region r.req.width r.req.src.id.core r.req.src.id.op r.req.src.id.part (Zb r.req.src.path) r.req.src.cap.kind r.req.src.cap.base r.req.src.cap.bits r.req.src.cap.rights r.req.src.cap.width r.req.src.cap.level r.req.src.cap.device (Zb r.ids) (r.nodes.map Ju) (Za r.cores) (r.moves.map Jw) r.base r.next.number (Za r.next.members) (Za r.next.owners) (r.state.slots.map Zg) (r.state.pending.map ZM) (r.state.marks.map Zk) (r.state.answers.map ZS) (r.state.entries.map Ze) (Zb r.state.commits) r.report.core r.report.view.number (Za r.report.view.members) (Za r.report.view.owners) (r.report.state.slots.map Zg) (r.report.state.pending.map ZM) (r.report.state.marks.map Zk) (r.report.state.answers.map ZS) (r.report.state.entries.map Ze) (Zb r.report.state.commits) r.report.ready r.report.next.number (Za r.report.next.members) (Za r.report.next.owners) (r.report.proposal.slots.map Zg) (r.report.proposal.pending.map ZM) (r.report.proposal.marks.map Zk) (r.report.proposal.answers.map ZS) (r.report.proposal.entries.map Ze) (Zb r.report.proposal.commits) (fc L) (L.length:Int) (i:Int)=some ((L.drop i).all (Zh m)&&Zx4 ((L.drop i).foldl clr r)):=by
 intro j
 induction j with
 | zero =>
  intro i fuel r hij hf hr
  obtain ⟨f,rfl⟩:∃ f,fuel=f+1:=⟨fuel - 1,by omega⟩
  refine (ZiX ..).trans ?_
  rw [if_neg (ZY (by omega)),s70 r hr,Option.bind_some,List.drop_of_length_le (by omega)]
  rfl
 | succ j ih =>
  intro i fuel r hij hf hr
  obtain ⟨f,rfl⟩:∃ f,fuel=f+1:=⟨fuel - 1,by omega⟩
  have hi:i < L.length:=by omega
  have hlt:=hL _ (List.getElem_mem hi)
  refine (ZiX ..).trans ?_
  rw [if_pos (ZZ hi)]
  refine (ZpZ hi _).trans ?_
  rw [s68 m h _ hlt,Option.bind_some,List.drop_eq_getElem_cons hi,List.all_cons,List.foldl_cons,ZR hi hn]
  cases Zh m L[i] with
  | false => rfl
  | true =>
   rw [if_neg (by simp),s69 r _ hlt,Option.bind_some,Bool.true_and]
   exact ih (i+1) f (clr r L[i]) (by omega) (by omega) (Zpg r _ hr)
def kindOk (k:Int):Bool:=decide (1≤k∧k≤17)
def headOk (m:Msg):Bool:=kindOk m.kind&&Jy m.view&&Zs m.frm&&Zs m.to
def rest (n:Nat) (m:Msg):Bool:=(List.range 15).all (fun g=>(kf n).contains g||zf m g)
def Kk (m:Msg):Bool:=headOk m&&((kf m.kind.toNat).all (Zh m)&&rest m.kind.toNat m)
theorem Zp6 (m:Msg):∀ n:Nat,1≤n→n≤17→Zx4 ((kf n).foldl clr m)=rest n m
 | 1, _, _ => by kernel_rfl
 | 2, _, _ => by kernel_rfl
 | 3, _, _ => by kernel_rfl
 | 4, _, _ => by kernel_rfl
 | 5, _, _ => by kernel_rfl
 | 6, _, _ => by kernel_rfl
 | 7, _, _ => by kernel_rfl
 | 8, _, _ => by kernel_rfl
 | 9, _, _ => by kernel_rfl
 | 10, _, _ => by kernel_rfl
 | 11, _, _ => by kernel_rfl
 | 12, _, _ => by kernel_rfl
 | 13, _, _ => by kernel_rfl
 | 14, _, _ => by kernel_rfl
 | 15, _, _ => by kernel_rfl
 | 16, _, _ => by kernel_rfl
 | 17, _, _ => by kernel_rfl
 | n + 18, _, h => absurd h (by omega)
theorem s40 (m:Msg) (h:m.Fits):g40 m.kind m.view m.frm m.to m.round m.region m.slot m.op.core m.op.op m.op.part m.err m.settled m.req.id.core m.req.id.op m.req.id.part m.req.call.kind m.req.call.slot m.req.call.dest m.req.call.core m.req.call.mask m.req.call.object m.req.call.bits m.req.call.level m.req.call.offset m.req.call.count m.req.call.index m.req.call.addr m.req.region m.req.width m.req.src.id.core m.req.src.id.op m.req.src.id.part (Zb m.req.src.path) m.req.src.cap.kind m.req.src.cap.base m.req.src.cap.bits m.req.src.cap.rights m.req.src.cap.width m.req.src.cap.level m.req.src.cap.device (Zb m.ids) (m.nodes.map Ju) (Za m.cores) (m.moves.map Jw) m.base m.next.number (Za m.next.members) (Za m.next.owners) (m.state.slots.map Zg) (m.state.pending.map ZM) (m.state.marks.map Zk) (m.state.answers.map ZS) (m.state.entries.map Ze) (Zb m.state.commits) m.report.core m.report.view.number (Za m.report.view.members) (Za m.report.view.owners) (m.report.state.slots.map Zg) (m.report.state.pending.map ZM) (m.report.state.marks.map Zk) (m.report.state.answers.map ZS) (m.report.state.entries.map Ze) (Zb m.report.state.commits) m.report.ready m.report.next.number (Za m.report.next.members) (Za m.report.next.owners) (m.report.proposal.slots.map Zg) (m.report.proposal.pending.map ZM) (m.report.proposal.marks.map Zk) (m.report.proposal.answers.map ZS) (m.report.proposal.entries.map Ze) (Zb m.report.proposal.commits)=some (Kk m):=by
 rw [ZsE]
 unfold Kk headOk
 by_cases hk:1≤m.kind∧m.kind≤17
 ·obtain ⟨n,hn⟩:∃ n:Nat,m.kind=n:=⟨m.kind.toNat,by omega⟩
  have h1:kindOk m.kind=true:=decide_eq_true hk
  have e19:g65 m.kind=some (fc (kf n),true):=by rw [hn]; exact s65 n (by omega) (by omega)
  rw [e19,Option.bind_some,s66,s67,s67,Option.bind_some,Option.bind_some,Option.bind_some,h1]
  have hlen:(fc (kf n)).length=(kf n).length:=List.length_map _
  have hsz:(kf n).length < 2 ^ 63:=by
   have:(kf n).length≤5:=by unfold kf; split <;> simp
   omega
  have e:=l40 m h (kf n) (ZxB n) hsz (kf n).length 0 Zx m (by omega) (by have:=JL hsz; omega) h.req
  rw [List.drop_zero,Zp6 m n (by omega) (by omega)] at e
  have hk2:m.kind.toNat=n:=by omega
  rw [hk2]
  dsimp only
  rw [hlen]
  refine (if_neg (by simp)).trans ?_
  cases Jy m.view <;> cases Zs m.frm <;> cases Zs m.to <;> first | rfl | exact e
 ·have h1:kindOk m.kind=false:=decide_eq_false hk
  rw [ZzT _ hk,Option.bind_some,h1]
  rfl
end Go.Proofs.YtljejgmcgddppaaGreat
end

section
namespace Go.Proofs.YtljejgmcgddppaaGreat
open Go Go.AM
set_option linter.unusedSimpArgs false
set_option linter.unusedVariables false
set_option maxRecDepth 100000
theorem Zpt (a b:Int):cop .eql a b=decide (a=b):=rfl
def at2 {α:Type} (q:α→α→Bool) (l m:List α) (i:Nat):Bool:=match l[i]?,m[i]? with | some a,some b=>q a b | _,_=>true
def J7 {α:Type} (q:α→α→Bool) (l m:List α):Bool:=decide (l.length=m.length)&&(List.range' 0 l.length).all (at2 q l m)
theorem ZaM {α:Type} (q:α→α→Bool) {l m:List α} {i:Nat} (h:i < l.length) (h':i < m.length):at2 q l m i=q l[i] m[i]:=by
 unfold at2
 rw [List.getElem?_eq_getElem h,List.getElem?_eq_getElem h']
def Zbc (a b:Req):Bool:=decide (a.id.core=b.id.core∧a.id.op=b.id.op∧a.id.part=b.id.part)&&decide (a.call.kind=b.call.kind∧a.call.slot=b.call.slot∧a.call.dest=b.call.dest∧a.call.core=b.call.core∧a.call.mask=b.call.mask∧a.call.object=b.call.object∧a.call.bits=b.call.bits∧a.call.level=b.call.level∧a.call.offset=b.call.offset∧a.call.count=b.call.count∧a.call.index=b.call.index∧a.call.addr=b.call.addr)&&decide (a.region=b.region)&&decide (a.width=b.width)&&KT a.src b.src
theorem ZyI (a b:Req) (ha:a.src.path.length < 2 ^ 63) (hb:b.src.path.length < 2 ^ 63):ZvN a.id.core a.id.op a.id.part a.call.kind a.call.slot a.call.dest a.call.core a.call.mask a.call.object a.call.bits a.call.level a.call.offset a.call.count a.call.index a.call.addr a.region a.width a.src.id.core a.src.id.op a.src.id.part (Zb a.src.path) a.src.cap.kind a.src.cap.base a.src.cap.bits a.src.cap.rights a.src.cap.width a.src.cap.level a.src.cap.device b.id.core b.id.op b.id.part b.call.kind b.call.slot b.call.dest b.call.core b.call.mask b.call.object b.call.bits b.call.level b.call.offset b.call.count b.call.index b.call.addr b.region b.width b.src.id.core b.src.id.op b.src.id.part (Zb b.src.path) b.src.cap.kind b.src.cap.base b.src.cap.bits b.src.cap.rights b.src.cap.width b.src.cap.level b.src.cap.device=some (Zbc a b):=by
 rw [Zqf,Zu6 _ _ ha hb,Option.bind_some]
 unfold Zbc
 repeat' split
 all_goals (refine congrArg some ?_; rw [Zj]; simp only [CQ] at * <;> grind)
theorem ZAv (l m:List Y4) (hl:l.length < 2 ^ 63) (pl:∀ x∈l,x.path.length < 2 ^ 63) (pm:∀ x∈m,x.path.length < 2 ^ 63):Zxy (l.map Ju) (m.map Ju)=some (J7 KT l m):=by
 rw [Zru,List.length_map,List.length_map]
 unfold J7
 by_cases h:l.length=m.length
 ·rw [if_neg (show ¬ (cop .neq (l.length:Int) (m.length:Int))=true by simp only [CQ]; omega),decide_eq_true h,Bool.true_and]
  have:=ZL (F:=fun k i=>Zhr k (l.map Ju) (m.map Ju) i) (n:=l.length) (fin:=some true) (bad:=some false) (at2 KT l m) hl 0 (by omega)
   (fun k i _ hi=>by
    have hi':i < m.length:=by omega
    refine (ZgR ..).trans ?_
    rw [List.length_map,if_pos (ZZ hi)]
    refine (Yx hi _).trans ?_
    refine (Yx hi' _).trans ?_
    rw [ZR hi hl,ZaM _ hi hi']
    generalize Zhr k (l.map Ju) (m.map Ju) ((i+1:Nat):Int)=X
    try simp only [Yx hi,Yx hi',Zft,d2,d4,d8,d16,Zu6 _ _ (pl _ (List.getElem_mem hi)) (pm _ (List.getElem_mem hi')),Option.bind_some]
    skip
    repeat' split
    all_goals (simp only [Zpt,CQ] at * <;> grind))
   (fun k i hi=>by refine (ZgR ..).trans ?_; rw [List.length_map,if_neg (ZY hi)])
  rw [Nat.sub_zero] at this
  refine Eq.trans this ?_
  cases (List.range' 0 l.length).all (at2 KT l m) <;> rfl
 ·rw [if_pos (show (cop .neq (l.length:Int) (m.length:Int))=true by simp only [CQ]; omega),decide_eq_false h]
  rfl
def ZaR:Int→Int→Bool:=fun a b=>decide (a=b)
theorem ZxH (l m:List Int) (hl:l.length < 2 ^ 63):Zuf (Za l) (Za m)=some (J7 ZaR l m):=by
 rw [Zp3,ZJ,ZJ]
 unfold J7
 by_cases h:l.length=m.length
 ·rw [if_neg (show ¬ (cop .neq (l.length:Int) (m.length:Int))=true by simp only [CQ]; omega),decide_eq_true h,Bool.true_and]
  have:=ZL (F:=fun k i=>Zhd k (Za l) (Za m) i) (n:=l.length) (fin:=some true) (bad:=some false) (at2 ZaR l m) hl 0 (by omega)
   (fun k i _ hi=>by
    have hi':i < m.length:=by omega
    refine (Zhq ..).trans ?_
    rw [ZJ,if_pos (ZZ hi)]
    refine (ZW hi _).trans ?_
    refine (ZW hi' _).trans ?_
    rw [ZR hi hl,ZaM _ hi hi']
    generalize Zhd k (Za l) (Za m) ((i+1:Nat):Int)=X
    try simp only [ZW hi,ZW hi',d2,d4,d8,d16,Option.bind_some]
    generalize l[i]=a
    generalize m[i]=b
    unfold ZaR
    repeat' split
    all_goals (simp only [Zpt,CQ] at * <;> grind))
   (fun k i hi=>by refine (Zhq ..).trans ?_; rw [ZJ,if_neg (ZY hi)])
  rw [Nat.sub_zero] at this
  refine Eq.trans this ?_
  cases (List.range' 0 l.length).all (at2 ZaR l m) <;> rfl
 ·rw [if_pos (show (cop .neq (l.length:Int) (m.length:Int))=true by simp only [CQ]; omega),decide_eq_false h]
  rfl
def WI:ZiY→ZiY→Bool:=fun a b=>decide (a.region=b.region∧a.to=b.to)
theorem ZAb (l m:List ZiY) (hl:l.length < 2 ^ 63):Zx6 (l.map Jw) (m.map Jw)=some (J7 WI l m):=by
 rw [Zqd,List.length_map,List.length_map]
 unfold J7
 by_cases h:l.length=m.length
 ·rw [if_neg (show ¬ (cop .neq (l.length:Int) (m.length:Int))=true by simp only [CQ]; omega),decide_eq_true h,Bool.true_and]
  have:=ZL (F:=fun k i=>Zgg k (l.map Jw) (m.map Jw) i) (n:=l.length) (fin:=some true) (bad:=some false) (at2 WI l m) hl 0 (by omega)
   (fun k i _ hi=>by
    have hi':i < m.length:=by omega
    refine (Zg5 ..).trans ?_
    rw [List.length_map,if_pos (ZZ hi)]
    refine (YP hi _).trans ?_
    refine (YP hi' _).trans ?_
    rw [ZR hi hl,ZaM _ hi hi']
    generalize Zgg k (l.map Jw) (m.map Jw) ((i+1:Nat):Int)=X
    try simp only [YP hi,YP hi',d2,d4,d8,d16,Option.bind_some]
    generalize l[i]=a
    generalize m[i]=b
    unfold WI
    repeat' split
    all_goals (simp only [Zpt,CQ] at * <;> grind))
   (fun k i hi=>by refine (Zg5 ..).trans ?_; rw [List.length_map,if_neg (ZY hi)])
  rw [Nat.sub_zero] at this
  refine Eq.trans this ?_
  cases (List.range' 0 l.length).all (at2 WI l m) <;> rfl
 ·rw [if_pos (show (cop .neq (l.length:Int) (m.length:Int))=true by simp only [CQ]; omega),decide_eq_false h]
  rfl
def Zdu:Jq→Jq→Bool:=fun a b=>decide (a.op=b.op)&&decide (a.lock.core=b.lock.core∧a.lock.op=b.lock.op∧a.lock.part=b.lock.part)&&KT a.node b.node
theorem s22 (l m:List Jq) (hl:l.length < 2 ^ 63) (pl:∀ x∈l,x.node.path.length < 2 ^ 63) (pm:∀ x∈m,x.node.path.length < 2 ^ 63):g22 (l.map Zg) (m.map Zg)=some (J7 Zdu l m):=by
 rw [ZuW,List.length_map,List.length_map]
 unfold J7
 by_cases h:l.length=m.length
 ·rw [if_neg (show ¬ (cop .neq (l.length:Int) (m.length:Int))=true by simp only [CQ]; omega),decide_eq_true h,Bool.true_and]
  have:=ZL (F:=fun k i=>Zne k (l.map Zg) (m.map Zg) i) (n:=l.length) (fin:=some true) (bad:=some false) (at2 Zdu l m) hl 0 (by omega)
   (fun k i _ hi=>by
    have hi':i < m.length:=by omega
    refine (Zjr ..).trans ?_
    rw [List.length_map,if_pos (ZZ hi)]
    refine (ZN hi _).trans ?_
    refine (ZN hi' _).trans ?_
    rw [ZR hi hl,ZaM _ hi hi']
    generalize Zne k (l.map Zg) (m.map Zg) ((i+1:Nat):Int)=X
    try simp only [ZN hi,ZN hi',Yd,d2,d4,d8,d16,Zu6 _ _ (pl _ (List.getElem_mem hi)) (pm _ (List.getElem_mem hi')),Option.bind_some]
    generalize l[i]=a
    generalize m[i]=b
    unfold Zdu
    repeat' split
    all_goals (simp only [Zpt,CQ] at * <;> grind))
   (fun k i hi=>by refine (Zjr ..).trans ?_; rw [List.length_map,if_neg (ZY hi)])
  rw [Nat.sub_zero] at this
  refine Eq.trans this ?_
  cases (List.range' 0 l.length).all (at2 Zdu l m) <;> rfl
 ·rw [if_pos (show (cop .neq (l.length:Int) (m.length:Int))=true by simp only [CQ]; omega),decide_eq_false h]
  rfl
theorem Zz7 (l m:List Req) (hl:l.length < 2 ^ 63) (pl:∀ x∈l,x.src.path.length < 2 ^ 63) (pm:∀ x∈m,x.src.path.length < 2 ^ 63):Zxn (l.map ZM) (m.map ZM)=some (J7 Zbc l m):=by
 rw [Zrr,List.length_map,List.length_map]
 unfold J7
 by_cases h:l.length=m.length
 ·rw [if_neg (show ¬ (cop .neq (l.length:Int) (m.length:Int))=true by simp only [CQ]; omega),decide_eq_true h,Bool.true_and]
  have:=ZL (F:=fun k i=>Zgf k (l.map ZM) (m.map ZM) i) (n:=l.length) (fin:=some true) (bad:=some false) (at2 Zbc l m) hl 0 (by omega)
   (fun k i _ hi=>by
    have hi':i < m.length:=by omega
    refine (Zhn ..).trans ?_
    rw [List.length_map,if_pos (ZZ hi)]
    refine (Yb hi _).trans ?_
    refine (Yb hi' _).trans ?_
    rw [ZR hi hl,ZaM _ hi hi']
    generalize Zgf k (l.map ZM) (m.map ZM) ((i+1:Nat):Int)=X
    try simp only [Yb hi,Yb hi',ZqF,d2,d4,d8,d16,ZyI _ _ (pl _ (List.getElem_mem hi)) (pm _ (List.getElem_mem hi')),Option.bind_some]
    skip
    repeat' split
    all_goals (simp only [Zpt,CQ] at * <;> grind))
   (fun k i hi=>by refine (Zhn ..).trans ?_; rw [List.length_map,if_neg (ZY hi)])
  rw [Nat.sub_zero] at this
  refine Eq.trans this ?_
  cases (List.range' 0 l.length).all (at2 Zbc l m) <;> rfl
 ·rw [if_pos (show (cop .neq (l.length:Int) (m.length:Int))=true by simp only [CQ]; omega),decide_eq_false h]
  rfl
def Za4:YA→YA→Bool:=fun a b=>decide (a.region=b.region∧a.op.core=b.op.core∧a.op.op=b.op.op∧a.op.part=b.op.part)
theorem s36 (l m:List YA) (hl:l.length < 2 ^ 63):g36 (l.map Zk) (m.map Zk)=some (J7 Za4 l m):=by
 rw [ZuR,List.length_map,List.length_map]
 unfold J7
 by_cases h:l.length=m.length
 ·rw [if_neg (show ¬ (cop .neq (l.length:Int) (m.length:Int))=true by simp only [CQ]; omega),decide_eq_true h,Bool.true_and]
  have:=ZL (F:=fun k i=>Zl9 k (l.map Zk) (m.map Zk) i) (n:=l.length) (fin:=some true) (bad:=some false) (at2 Za4 l m) hl 0 (by omega)
   (fun k i _ hi=>by
    have hi':i < m.length:=by omega
    refine (Zjs ..).trans ?_
    rw [List.length_map,if_pos (ZZ hi)]
    refine (Je hi _).trans ?_
    refine (Je hi' _).trans ?_
    rw [ZR hi hl,ZaM _ hi hi']
    generalize Zl9 k (l.map Zk) (m.map Zk) ((i+1:Nat):Int)=X
    try simp only [Je hi,Je hi',d2,d4,d8,d16,Option.bind_some]
    generalize l[i]=a
    generalize m[i]=b
    unfold Za4
    repeat' split
    all_goals (simp only [Zpt,CQ] at * <;> grind))
   (fun k i hi=>by refine (Zjs ..).trans ?_; rw [List.length_map,if_neg (ZY hi)])
  rw [Nat.sub_zero] at this
  refine Eq.trans this ?_
  cases (List.range' 0 l.length).all (at2 Za4 l m) <;> rfl
 ·rw [if_pos (show (cop .neq (l.length:Int) (m.length:Int))=true by simp only [CQ]; omega),decide_eq_false h]
  rfl
def Zif:Ans→Ans→Bool:=fun a b=>decide (a.op=b.op∧a.err=b.err)
theorem ZzK (l m:List Ans) (hl:l.length < 2 ^ 63):Zv9 (l.map ZS) (m.map ZS)=some (J7 Zif l m):=by
 rw [ZrB,List.length_map,List.length_map]
 unfold J7
 by_cases h:l.length=m.length
 ·rw [if_neg (show ¬ (cop .neq (l.length:Int) (m.length:Int))=true by simp only [CQ]; omega),decide_eq_true h,Bool.true_and]
  have:=ZL (F:=fun k i=>ZgE k (l.map ZS) (m.map ZS) i) (n:=l.length) (fin:=some true) (bad:=some false) (at2 Zif l m) hl 0 (by omega)
   (fun k i _ hi=>by
    have hi':i < m.length:=by omega
    refine (Zgp ..).trans ?_
    rw [List.length_map,if_pos (ZZ hi)]
    refine (Yl hi _).trans ?_
    refine (Yl hi' _).trans ?_
    rw [ZR hi hl,ZaM _ hi hi']
    generalize ZgE k (l.map ZS) (m.map ZS) ((i+1:Nat):Int)=X
    try simp only [Yl hi,Yl hi',d2,d4,d8,d16,Option.bind_some]
    generalize l[i]=a
    generalize m[i]=b
    unfold Zif
    repeat' split
    all_goals (simp only [Zpt,CQ] at * <;> grind))
   (fun k i hi=>by refine (Zgp ..).trans ?_; rw [List.length_map,if_neg (ZY hi)])
  rw [Nat.sub_zero] at this
  refine Eq.trans this ?_
  cases (List.range' 0 l.length).all (at2 Zif l m) <;> rfl
 ·rw [if_pos (show (cop .neq (l.length:Int) (m.length:Int))=true by simp only [CQ]; omega),decide_eq_false h]
  rfl
def ZiN:ZG→ZG→Bool:=fun a b=>decide (a.core=b.core)&&decide (a.slot=b.slot)&&KT a.node b.node
theorem Zzi (l m:List ZG) (hl:l.length < 2 ^ 63) (pl:∀ x∈l,x.node.path.length < 2 ^ 63) (pm:∀ x∈m,x.node.path.length < 2 ^ 63):ZxG (l.map Ze) (m.map Ze)=some (J7 ZiN l m):=by
 rw [Zri,List.length_map,List.length_map]
 unfold J7
 by_cases h:l.length=m.length
 ·rw [if_neg (show ¬ (cop .neq (l.length:Int) (m.length:Int))=true by simp only [CQ]; omega),decide_eq_true h,Bool.true_and]
  have:=ZL (F:=fun k i=>ZgU k (l.map Ze) (m.map Ze) i) (n:=l.length) (fin:=some true) (bad:=some false) (at2 ZiN l m) hl 0 (by omega)
   (fun k i _ hi=>by
    have hi':i < m.length:=by omega
    refine (Zge ..).trans ?_
    rw [List.length_map,if_pos (ZZ hi)]
    refine (Zt hi _).trans ?_
    refine (Zt hi' _).trans ?_
    rw [ZR hi hl,ZaM _ hi hi']
    generalize ZgU k (l.map Ze) (m.map Ze) ((i+1:Nat):Int)=X
    try simp only [Zt hi,Zt hi',J8,d2,d4,d8,d16,Zu6 _ _ (pl _ (List.getElem_mem hi)) (pm _ (List.getElem_mem hi')),Option.bind_some]
    generalize l[i]=a
    generalize m[i]=b
    unfold ZiN
    repeat' split
    all_goals (simp only [Zpt,CQ] at * <;> grind))
   (fun k i hi=>by refine (Zge ..).trans ?_; rw [List.length_map,if_neg (ZY hi)])
  rw [Nat.sub_zero] at this
  refine Eq.trans this ?_
  cases (List.range' 0 l.length).all (at2 ZiN l m) <;> rfl
 ·rw [if_pos (show (cop .neq (l.length:Int) (m.length:Int))=true by simp only [CQ]; omega),decide_eq_false h]
  rfl
def Zd5 (a b:View):Bool:=cop .eql a.number b.number&&(J7 ZaR a.members b.members&&J7 ZaR a.owners b.owners)
def WJ (a b:State):Bool:=J7 Zdu a.slots b.slots&&(J7 Zbc a.pending b.pending&&(J7 Za4 a.marks b.marks&&(J7 Zif a.answers b.answers&&(J7 ZiN a.entries b.entries&&decide (a.commits=b.commits)))))
def VW (a b:Report):Bool:=cop .eql a.core b.core&&(Zd5 a.view b.view&&(WJ a.state b.state&&((a.ready == b.ready)&&(Zd5 a.next b.next&&WJ a.proposal b.proposal))))
theorem Zxo (a b:View) (h:a.Fits):Ztl a.number (Za a.members) (Za a.owners) b.number (Za b.members) (Za b.owners)=some (Zd5 a b):=by
 rw [Zp9,ZxH _ _ h.members,ZxH _ _ h.owners]
 exact Jv _ (Jv _ rfl)
theorem Zyk (a b:State) (h:a.Fits) (h':b.Fits):ZtN (a.slots.map Zg) (a.pending.map ZM) (a.marks.map Zk) (a.answers.map ZS) (a.entries.map Ze) (Zb a.commits) (b.slots.map Zg) (b.pending.map ZM) (b.marks.map Zk) (b.answers.map ZS) (b.entries.map Ze) (Zb b.commits)=some (WJ a b):=by
 rw [Zrk,s22 _ _ h.slots h.slot h'.slot,Zz7 _ _ h.pending h.req h'.req,s36 _ _ h.marks,ZzK _ _ h.answers,Zzi _ _ h.entries h.entry h'.entry,s46 _ _ h.commits h'.commits]
 exact Jv _ (Jv _ (Jv _ (Jv _ (Jv _ rfl))))
theorem Zzy (a b:Report) (h:a.Fits) (h':b.Fits):ZwA a.core a.view.number (Za a.view.members) (Za a.view.owners) (a.state.slots.map Zg) (a.state.pending.map ZM) (a.state.marks.map Zk) (a.state.answers.map ZS) (a.state.entries.map Ze) (Zb a.state.commits) a.ready a.next.number (Za a.next.members) (Za a.next.owners) (a.proposal.slots.map Zg) (a.proposal.pending.map ZM) (a.proposal.marks.map Zk) (a.proposal.answers.map ZS) (a.proposal.entries.map Ze) (Zb a.proposal.commits) b.core b.view.number (Za b.view.members) (Za b.view.owners) (b.state.slots.map Zg) (b.state.pending.map ZM) (b.state.marks.map Zk) (b.state.answers.map ZS) (b.state.entries.map Ze) (Zb b.state.commits) b.ready b.next.number (Za b.next.members) (Za b.next.owners) (b.proposal.slots.map Zg) (b.proposal.pending.map ZM) (b.proposal.marks.map Zk) (b.proposal.answers.map ZS) (b.proposal.entries.map Ze) (Zb b.proposal.commits)=some (VW a b):=by
 rw [Zr2,Zxo _ _ h.view,Zyk _ _ h.state h'.state,Zxo _ _ h.next,Zyk _ _ h.proposal h'.proposal]
 exact Jv _ (Jv _ (Jv _ (Jv _ (Jv _ rfl))))
theorem nif (c:Bool) {y:Bool} {x:Option Bool} (h:x=some y):(if c=true then some false else x)=some (!c&&y):=by cases c <;> simp [h]
def ZkM (a b:Msg):Bool:=!cop .neq a.kind b.kind&&(!cop .neq a.view b.view&&(!cop .neq a.frm b.frm&&(!cop .neq a.to b.to&&(!cop .neq a.round b.round&&(!cop .neq a.region b.region&&(!cop .neq a.slot b.slot&&(!(!((cop .eql a.op.core b.op.core)&&((cop .eql a.op.op b.op.op)&&((cop .eql a.op.part b.op.part)&&true))))&&(!cop .neq a.err b.err&&(!(!(a.settled == b.settled))&&(!cop .neq a.base b.base&&(Zbc a.req b.req&&(decide (a.ids=b.ids)&&(J7 KT a.nodes b.nodes&&(J7 ZaR a.cores b.cores&&(J7 WI a.moves b.moves&&(Zd5 a.next b.next&&(WJ a.state b.state&&VW a.report b.report)))))))))))))))))
theorem s62 (a b:Msg) (h:a.Fits) (h':b.Fits):g62 a.kind a.view a.frm a.to a.round a.region a.slot a.op.core a.op.op a.op.part a.err a.settled a.req.id.core a.req.id.op a.req.id.part a.req.call.kind a.req.call.slot a.req.call.dest a.req.call.core a.req.call.mask a.req.call.object a.req.call.bits a.req.call.level a.req.call.offset a.req.call.count a.req.call.index a.req.call.addr a.req.region a.req.width a.req.src.id.core a.req.src.id.op a.req.src.id.part (Zb a.req.src.path) a.req.src.cap.kind a.req.src.cap.base a.req.src.cap.bits a.req.src.cap.rights a.req.src.cap.width a.req.src.cap.level a.req.src.cap.device (Zb a.ids) (a.nodes.map Ju) (Za a.cores) (a.moves.map Jw) a.base a.next.number (Za a.next.members) (Za a.next.owners) (a.state.slots.map Zg) (a.state.pending.map ZM) (a.state.marks.map Zk) (a.state.answers.map ZS) (a.state.entries.map Ze) (Zb a.state.commits) a.report.core a.report.view.number (Za a.report.view.members) (Za a.report.view.owners) (a.report.state.slots.map Zg) (a.report.state.pending.map ZM) (a.report.state.marks.map Zk) (a.report.state.answers.map ZS) (a.report.state.entries.map Ze) (Zb a.report.state.commits) a.report.ready a.report.next.number (Za a.report.next.members) (Za a.report.next.owners) (a.report.proposal.slots.map Zg) (a.report.proposal.pending.map ZM) (a.report.proposal.marks.map Zk) (a.report.proposal.answers.map ZS) (a.report.proposal.entries.map Ze) (Zb a.report.proposal.commits) b.kind b.view b.frm b.to b.round b.region b.slot b.op.core b.op.op b.op.part b.err b.settled b.req.id.core b.req.id.op b.req.id.part b.req.call.kind b.req.call.slot b.req.call.dest b.req.call.core b.req.call.mask b.req.call.object b.req.call.bits b.req.call.level b.req.call.offset b.req.call.count b.req.call.index b.req.call.addr b.req.region b.req.width b.req.src.id.core b.req.src.id.op b.req.src.id.part (Zb b.req.src.path) b.req.src.cap.kind b.req.src.cap.base b.req.src.cap.bits b.req.src.cap.rights b.req.src.cap.width b.req.src.cap.level b.req.src.cap.device (Zb b.ids) (b.nodes.map Ju) (Za b.cores) (b.moves.map Jw) b.base b.next.number (Za b.next.members) (Za b.next.owners) (b.state.slots.map Zg) (b.state.pending.map ZM) (b.state.marks.map Zk) (b.state.answers.map ZS) (b.state.entries.map Ze) (Zb b.state.commits) b.report.core b.report.view.number (Za b.report.view.members) (Za b.report.view.owners) (b.report.state.slots.map Zg) (b.report.state.pending.map ZM) (b.report.state.marks.map Zk) (b.report.state.answers.map ZS) (b.report.state.entries.map Ze) (Zb b.report.state.commits) b.report.ready b.report.next.number (Za b.report.next.members) (Za b.report.next.owners) (b.report.proposal.slots.map Zg) (b.report.proposal.pending.map ZM) (b.report.proposal.marks.map Zk) (b.report.proposal.answers.map ZS) (b.report.proposal.entries.map Ze) (Zb b.report.proposal.commits)=some (ZkM a b):=by
 rw [Ztv,ZyI _ _ h.req h'.req,s46 _ _ h.ids h'.ids,ZAv _ _ h.nodes h.node h'.node,ZxH _ _ h.cores,ZAb _ _ h.moves,Zxo _ _ h.next,Zyk _ _ h.state h'.state,Zzy _ _ h.report h'.report]
 exact nif _ (nif _ (nif _ (nif _ (nif _ (nif _ (nif _ (nif _ (nif _ (nif _ (nif _ (Jv _ (Jv _ (Jv _ (Jv _ (Jv _ (Jv _ (Jv _ (rfl))))))))))))))))))
theorem Jk {α:Type} (q:α→α→Bool) (hq:∀ a,q a a=true) (l:List α):J7 q l l=true:=by
 unfold J7
 rw [decide_eq_true rfl,Bool.true_and,List.all_eq_true]
 intro i hi
 have hi':i < l.length:=by simpa [List.mem_range'] using hi
 rw [ZaM q hi' hi',hq]
theorem Yp {α:Type} (q:α→α→Bool) (l:List α):J7 q l []=decide (l.length=0):=by
 unfold J7
 cases l with
 | nil => rfl
 | cons a r => simp
theorem YW (a:Y4):KT a a=true:=by simp [KT]
theorem ZbD (a:Req):Zbc a a=true:=by simp [Zbc,YW]
theorem ZkS (a:Req):Zbc a Z5=Zsf a:=by
 have:decide (a.id.core=Z5.id.core∧a.id.op=Z5.id.op∧a.id.part=Z5.id.part)=decide (a.id=zid):=by
  rw [Zj,decide_eq_true_eq,decide_eq_true_eq]
  constructor
  ·rintro ⟨h1,h2,h3⟩
   rcases h:a.id with ⟨x,y,z⟩
   rw [h] at h1 h2 h3
   simp only [Z5,zid] at h1 h2 h3
   subst h1 h2 h3
   rfl
  ·intro h; rw [h]; exact ⟨rfl,rfl,rfl⟩
 unfold Zbc Zsf
 rw [this]
 rfl
theorem ZbM (a:View):Zd5 a a=true:=by
 simp [Zd5,Jk ZaR (fun a=>by simp [ZaR]),cop]
theorem ZbI (a:View):Zd5 a ZC=ZdX a:=by
 unfold Zd5 ZdX
 rw [show ZC.members = [] from rfl,show ZC.owners = [] from rfl,Yp,Yp,Bool.and_assoc]
 rfl
theorem WY (a:State):WJ a a=true:=by
 simp [WJ,Jk Zdu (fun a=>by simp [Zdu,YW]),Jk Zbc ZbD,Jk Za4 (fun a=>by simp [Za4]),Jk Zif (fun a=>by simp [Zif]),Jk ZiN (fun a=>by simp [ZiN,YW])]
theorem W6 (a:State):WJ a Zl=Za0 a:=by
 have:decide (a.commits=([] : List Id))=decide (a.commits.length=0):=by
  rw [Zj,decide_eq_true_eq,decide_eq_true_eq,List.length_eq_zero_iff]
 unfold WJ Za0
 rw [show Zl.slots = [] from rfl,show Zl.pending = [] from rfl,show Zl.marks = [] from rfl,show Zl.answers = [] from rfl,show Zl.entries = [] from rfl,show Zl.commits = [] from rfl,Yp,Yp,Yp,Yp,Yp,this]
 simp only [Bool.and_assoc]
theorem ZbP (a:Report):VW a a=true:=by simp [VW,ZbM,WY,cop]
theorem ZgJ (a:Report):VW a Zm=Zbw a:=by
 unfold VW Zbw
 rw [show Zm.view=ZC from rfl,show Zm.next=ZC from rfl,show Zm.state=Zl from rfl,show Zm.proposal=Zl from rfl,ZbI,ZbI,W6,W6]
 have e:(a.ready == Zm.ready) = !a.ready:=by cases a.ready <;> rfl
 rw [e]
 simp only [Bool.and_assoc]
 rfl
theorem Zll (a:Msg):ZkM a a=true:=by
 simp [ZkM,ZbD,Jk KT YW,Jk ZaR (fun a=>by simp [ZaR]),Jk WI (fun a=>by simp [WI]),ZbM,WY,ZbP,cop]
end Go.Proofs.YtljejgmcgddppaaGreat
end

section
namespace Go.Proofs.YtljejgmcgddppaaGreat
open Go Go.AM
set_option linter.unusedSimpArgs false
set_option linter.unusedVariables false
set_option maxRecDepth 100000
theorem l56 (m x:Msg) (h:m.Fits) (hx:x.Fits):∀ (j i fuel:Nat) (ok:Bool),m.nodes.length=i+j→j < fuel→
  Yw fuel m.kind m.view m.frm m.to m.round m.region m.slot m.op.core m.op.op m.op.part m.err m.settled m.req.id.core m.req.id.op m.req.id.part m.req.call.kind m.req.call.slot m.req.call.dest m.req.call.core m.req.call.mask m.req.call.object m.req.call.bits m.req.call.level m.req.call.offset m.req.call.count m.req.call.index m.req.call.addr m.req.region m.req.width m.req.src.id.core m.req.src.id.op m.req.src.id.part (Zb m.req.src.path) m.req.src.cap.kind m.req.src.cap.base m.req.src.cap.bits m.req.src.cap.rights m.req.src.cap.width m.req.src.cap.level m.req.src.cap.device (Zb m.ids) (m.nodes.map Ju) (Za m.cores) (m.moves.map Jw) m.base m.next.number (Za m.next.members) (Za m.next.owners) (m.state.slots.map Zg) (m.state.pending.map ZM) (m.state.marks.map Zk) (m.state.answers.map ZS) (m.state.entries.map Ze) (Zb m.state.commits) m.report.core m.report.view.number (Za m.report.view.members) (Za m.report.view.owners) (m.report.state.slots.map Zg) (m.report.state.pending.map ZM) (m.report.state.marks.map Zk) (m.report.state.answers.map ZS) (m.report.state.entries.map Ze) (Zb m.report.state.commits) m.report.ready m.report.next.number (Za m.report.next.members) (Za m.report.next.owners) (m.report.proposal.slots.map Zg) (m.report.proposal.pending.map ZM) (m.report.proposal.marks.map Zk) (m.report.proposal.answers.map ZS) (m.report.proposal.entries.map Ze) (Zb m.report.proposal.commits) x.kind x.view x.frm x.to x.round x.region x.slot x.op.core x.op.op x.op.part x.err x.settled x.req.id.core x.req.id.op x.req.id.part x.req.call.kind x.req.call.slot x.req.call.dest x.req.call.core x.req.call.mask x.req.call.object x.req.call.bits x.req.call.level x.req.call.offset x.req.call.count x.req.call.index x.req.call.addr x.req.region x.req.width x.req.src.id.core x.req.src.id.op x.req.src.id.part (Zb x.req.src.path) x.req.src.cap.kind x.req.src.cap.base x.req.src.cap.bits x.req.src.cap.rights x.req.src.cap.width x.req.src.cap.level x.req.src.cap.device (Zb x.ids) (x.nodes.map Ju) (Za x.cores) (x.moves.map Jw) x.base x.next.number (Za x.next.members) (Za x.next.owners) (x.state.slots.map Zg) (x.state.pending.map ZM) (x.state.marks.map Zk) (x.state.answers.map ZS) (x.state.entries.map Ze) (Zb x.state.commits) x.report.core x.report.view.number (Za x.report.view.members) (Za x.report.view.owners) (x.report.state.slots.map Zg) (x.report.state.pending.map ZM) (x.report.state.marks.map Zk) (x.report.state.answers.map ZS) (x.report.state.entries.map Ze) (Zb x.report.state.commits) x.report.ready x.report.next.number (Za x.report.next.members) (Za x.report.next.owners) (x.report.proposal.slots.map Zg) (x.report.proposal.pending.map ZM) (x.report.proposal.marks.map Zk) (x.report.proposal.answers.map ZS) (x.report.proposal.entries.map Ze) (Zb x.report.proposal.commits) ok (i:Int)=some (ok&&((m.nodes.drop i).all ZF&&(Z1 m.region&&ZkM m x))):=by
 intro j
 induction j with
 | zero =>
  intro i fuel ok hij hf
  obtain ⟨f,rfl⟩:∃ f,fuel=f+1:=⟨fuel - 1,by omega⟩
  refine (Zkm ..).trans ?_
  rw [List.length_map,if_neg (ZY (by omega)),List.drop_of_length_le (by omega)]
  cases ok with
  | false => rfl
  | true =>
   rw [if_pos rfl,ZtG,Option.bind_some,s62 m x h hx,Option.bind_some]
   cases Z1 m.region <;> rfl
 | succ j ih =>
  intro i fuel ok hij hf
  obtain ⟨f,rfl⟩:∃ f,fuel=f+1:=⟨fuel - 1,by omega⟩
  have hi:i < m.nodes.length:=by omega
  refine (Zkm ..).trans ?_
  rw [List.length_map,if_pos (ZZ hi)]
  cases ok with
  | false => rfl
  | true =>
   rw [if_pos rfl]
   refine (Yx hi _).trans ?_
   simp only [Zft,d2,d4,d8,d16]
   rw [s87 _ (h.node _ (List.getElem_mem hi)),Option.bind_some,ZR hi h.nodes,ih (i+1) f _ (by omega) (by omega),List.drop_eq_getElem_cons hi,List.all_cons]
   cases ZF m.nodes[i] <;> rfl
theorem kne {a b:Int} (h:a≠b):¬ (cop .eql a b=true):=by simp only [CQ]; exact h
theorem keq {a b:Int} (h:a=b):cop .eql a b=true:=by simp only [CQ]; exact h
@[reducible] noncomputable def G10 (m:Msg):=g56 m.kind m.view m.frm m.to m.round m.region m.slot m.op.core m.op.op m.op.part m.err m.settled m.req.id.core m.req.id.op m.req.id.part m.req.call.kind m.req.call.slot m.req.call.dest m.req.call.core m.req.call.mask m.req.call.object m.req.call.bits m.req.call.level m.req.call.offset m.req.call.count m.req.call.index m.req.call.addr m.req.region m.req.width m.req.src.id.core m.req.src.id.op m.req.src.id.part (Zb m.req.src.path) m.req.src.cap.kind m.req.src.cap.base m.req.src.cap.bits m.req.src.cap.rights m.req.src.cap.width m.req.src.cap.level m.req.src.cap.device (Zb m.ids) (m.nodes.map Ju) (Za m.cores) (m.moves.map Jw) m.base m.next.number (Za m.next.members) (Za m.next.owners) (m.state.slots.map Zg) (m.state.pending.map ZM) (m.state.marks.map Zk) (m.state.answers.map ZS) (m.state.entries.map Ze) (Zb m.state.commits) m.report.core m.report.view.number (Za m.report.view.members) (Za m.report.view.owners) (m.report.state.slots.map Zg) (m.report.state.pending.map ZM) (m.report.state.marks.map Zk) (m.report.state.answers.map ZS) (m.report.state.entries.map Ze) (Zb m.report.state.commits) m.report.ready m.report.next.number (Za m.report.next.members) (Za m.report.next.owners) (m.report.proposal.slots.map Zg) (m.report.proposal.pending.map ZM) (m.report.proposal.marks.map Zk) (m.report.proposal.answers.map ZS) (m.report.proposal.entries.map Ze) (Zb m.report.proposal.commits)
@[reducible] noncomputable def G10L (m:Msg):=Yw Zx m.kind m.view m.frm m.to m.round m.region m.slot m.op.core m.op.op m.op.part m.err m.settled m.req.id.core m.req.id.op m.req.id.part m.req.call.kind m.req.call.slot m.req.call.dest m.req.call.core m.req.call.mask m.req.call.object m.req.call.bits m.req.call.level m.req.call.offset m.req.call.count m.req.call.index m.req.call.addr m.req.region m.req.width m.req.src.id.core m.req.src.id.op m.req.src.id.part (Zb m.req.src.path) m.req.src.cap.kind m.req.src.cap.base m.req.src.cap.bits m.req.src.cap.rights m.req.src.cap.width m.req.src.cap.level m.req.src.cap.device (Zb m.ids) (m.nodes.map Ju) (Za m.cores) (m.moves.map Jw) m.base m.next.number (Za m.next.members) (Za m.next.owners) (m.state.slots.map Zg) (m.state.pending.map ZM) (m.state.marks.map Zk) (m.state.answers.map ZS) (m.state.entries.map Ze) (Zb m.state.commits) m.report.core m.report.view.number (Za m.report.view.members) (Za m.report.view.owners) (m.report.state.slots.map Zg) (m.report.state.pending.map ZM) (m.report.state.marks.map Zk) (m.report.state.answers.map ZS) (m.report.state.entries.map Ze) (Zb m.report.state.commits) m.report.ready m.report.next.number (Za m.report.next.members) (Za m.report.next.owners) (m.report.proposal.slots.map Zg) (m.report.proposal.pending.map ZM) (m.report.proposal.marks.map Zk) (m.report.proposal.answers.map ZS) (m.report.proposal.entries.map Ze) (Zb m.report.proposal.commits)
def sel (b:Nat→Bool) (m:Msg):Msg:=⟨m.kind,m.view,m.frm,m.to,if b 8=true then m.round else 0,if b 0=true then m.region else 0,if b 6=true then m.slot else 0,if b 2=true then m.op else zid,if b 3=true then m.err else 0,if b 4=true then m.settled else false,if b 1=true then m.req else Z5,if b 7=true then m.ids else [],if b 5=true then m.nodes else [],if b 9=true then m.cores else [],if b 14=true then m.moves else [],if b 11=true then m.base else 0,if b 12=true then m.next else ZC,if b 13=true then m.state else Zl,if b 10=true then m.report else Zm⟩
theorem JE (b:Nat→Bool) {m:Msg} (h:m.Fits):(sel b m).Fits:=by
 refine ⟨?_,?_,?_,?_,?_,?_,?_,?_,?_⟩
 ·show (if b 1=true then m.req else Z5).src.path.length < 2 ^ 63
  cases b 1 <;> first | exact h.req | (show ([] : List Id).length < 2 ^ 63; simp)
 ·show (if b 7=true then m.ids else []).length < 2 ^ 63
  cases b 7 <;> first | exact h.ids | (show ([] : List Id).length < 2 ^ 63; simp)
 ·show (if b 5=true then m.nodes else []).length < 2 ^ 63
  cases b 5 <;> first | exact h.nodes | (show ([] : List Y4).length < 2 ^ 63; simp)
 ·show ∀ x∈(if b 5=true then m.nodes else []),x.path.length < 2 ^ 63
  cases b 5 <;> first | exact h.node | (intro x hx; cases hx)
 ·show (if b 9=true then m.cores else []).length < 2 ^ 63
  cases b 9 <;> first | exact h.cores | (show ([] : List Int).length < 2 ^ 63; simp)
 ·show (if b 14=true then m.moves else []).length < 2 ^ 63
  cases b 14 <;> first | exact h.moves | (show ([] : List ZiY).length < 2 ^ 63; simp)
 ·show (if b 12=true then m.next else ZC).Fits
  cases b 12 <;> first | exact h.next | exact ⟨by simp [ZC],by simp [ZC]⟩
 ·show (if b 13=true then m.state else Zl).Fits
  cases b 13 <;> first | exact h.state | exact ⟨by simp [Zl],by simp [Zl],by simp [Zl],by simp [Zl],by simp [Zl],by simp [Zl],by simp [Zl],by simp [Zl],by simp [Zl]⟩
 ·show (if b 10=true then m.report else Zm).Fits
  cases b 10 <;> first | exact h.report | exact ⟨⟨by simp [Zm,ZC],by simp [Zm,ZC]⟩,⟨by simp [Zm,Zl],by simp [Zm,Zl],by simp [Zm,Zl],by simp [Zm,Zl],by simp [Zm,Zl],by simp [Zm,Zl],by simp [Zm,Zl],by simp [Zm,Zl],by simp [Zm,Zl]⟩,⟨by simp [Zm,ZC],by simp [Zm,ZC]⟩,⟨by simp [Zm,Zl],by simp [Zm,Zl],by simp [Zm,Zl],by simp [Zm,Zl],by simp [Zm,Zl],by simp [Zm,Zl],by simp [Zm,Zl],by simp [Zm,Zl],by simp [Zm,Zl]⟩⟩
theorem JF (b:Nat→Bool) (m:Msg):ZkM m (sel b m)=(List.range 15).all (fun g=>b g||zf m g):=by
 have k0:(!cop .neq m.kind (sel b m).kind)=true:=by simp [sel,cop]
 have k1:(!cop .neq m.view (sel b m).view)=true:=by simp [sel,cop]
 have k2:(!cop .neq m.frm (sel b m).frm)=true:=by simp [sel,cop]
 have k3:(!cop .neq m.to (sel b m).to)=true:=by simp [sel,cop]
 have e8:(!cop .neq m.round (sel b m).round)=(b 8||zf m 8):=by
  show (!cop .neq m.round (if b 8=true then m.round else 0))=(b 8||decide (m.round=0))
  cases b 8 with
  | true => simp [cop]
  | false => rw [Zj]; simp [cop]
 have e0:(!cop .neq m.region (sel b m).region)=(b 0||zf m 0):=by
  show (!cop .neq m.region (if b 0=true then m.region else 0))=(b 0||decide (m.region=0))
  cases b 0 with
  | true => simp [cop]
  | false => rw [Zj]; simp [cop]
 have e6:(!cop .neq m.slot (sel b m).slot)=(b 6||zf m 6):=by
  show (!cop .neq m.slot (if b 6=true then m.slot else 0))=(b 6||decide (m.slot=0))
  cases b 6 with
  | true => simp [cop]
  | false => rw [Zj]; simp [cop]
 have e3:(!cop .neq m.err (sel b m).err)=(b 3||zf m 3):=by
  show (!cop .neq m.err (if b 3=true then m.err else 0))=(b 3||decide (m.err=0))
  cases b 3 with
  | true => simp [cop]
  | false => rw [Zj]; simp [cop]
 have e11:(!cop .neq m.base (sel b m).base)=(b 11||zf m 11):=by
  show (!cop .neq m.base (if b 11=true then m.base else 0))=(b 11||decide (m.base=0))
  cases b 11 with
  | true => simp [cop]
  | false => rw [Zj]; simp [cop]
 have e2:(!(!((cop .eql m.op.core (sel b m).op.core)&&((cop .eql m.op.op (sel b m).op.op)&&((cop .eql m.op.part (sel b m).op.part)&&true)))))=(b 2||zf m 2):=by
  rw [Bool.not_not]
  show ((cop .eql m.op.core (if b 2=true then m.op else zid).core)&&((cop .eql m.op.op (if b 2=true then m.op else zid).op)&&((cop .eql m.op.part (if b 2=true then m.op else zid).part)&&true)))=(b 2||decide (m.op=zid))
  cases b 2 with
  | true => simp [cop]
  | false => rw [Zj, Bool.false_or, decide_eq_true_eq]; exact Ya _ _ _
 have e4:(!(!(m.settled == (sel b m).settled)))=(b 4||zf m 4):=by
  show (!(!(m.settled == (if b 4=true then m.settled else false))))=(b 4||!m.settled)
  cases b 4 <;> cases m.settled <;> rfl
 have e1:Zbc m.req (sel b m).req=(b 1||zf m 1):=by
  show Zbc m.req (if b 1=true then m.req else Z5)=(b 1||Zsf m.req)
  cases b 1 with
  | true => exact ZbD _
  | false => exact ZkS _
 have e7:decide (m.ids=(sel b m).ids)=(b 7||zf m 7):=by
  show decide (m.ids=(if b 7=true then m.ids else []))=(b 7||decide (m.ids.length=0))
  cases b 7 <;> simp
 have e5:J7 KT m.nodes (sel b m).nodes=(b 5||zf m 5):=by
  show J7 KT m.nodes (if b 5=true then m.nodes else [])=(b 5||decide (m.nodes.length=0))
  cases b 5 with
  | true => exact Jk _ YW _
  | false => exact Yp _ _
 have e9:J7 ZaR m.cores (sel b m).cores=(b 9||zf m 9):=by
  show J7 ZaR m.cores (if b 9=true then m.cores else [])=(b 9||decide (m.cores.length=0))
  cases b 9 with
  | true => exact Jk _ (fun a => by simp [ZaR]) _
  | false => exact Yp _ _
 have e14:J7 WI m.moves (sel b m).moves=(b 14||zf m 14):=by
  show J7 WI m.moves (if b 14=true then m.moves else [])=(b 14||decide (m.moves.length=0))
  cases b 14 with
  | true => exact Jk _ (fun a => by simp [WI]) _
  | false => exact Yp _ _
 have e12:Zd5 m.next (sel b m).next=(b 12||zf m 12):=by
  show Zd5 m.next (if b 12=true then m.next else ZC)=(b 12||ZdX m.next)
  cases b 12 with
  | true => exact ZbM _
  | false => exact ZbI _
 have e13:WJ m.state (sel b m).state=(b 13||zf m 13):=by
  show WJ m.state (if b 13=true then m.state else Zl)=(b 13||Za0 m.state)
  cases b 13 with
  | true => exact WY _
  | false => exact W6 _
 have e10:VW m.report (sel b m).report=(b 10||zf m 10):=by
  show VW m.report (if b 10=true then m.report else Zm)=(b 10||Zbw m.report)
  cases b 10 with
  | true => exact ZbP _
  | false => exact ZgJ _
 unfold ZkM
 rw [k0,k1,k2,k3,e8,e0,e6,e2,e3,e4,e11,e1,e7,e5,e9,e14,e12,e13,e10]
 show _=((b 0||zf m 0)&&((b 1||zf m 1)&&((b 2||zf m 2)&&((b 3||zf m 3)&&((b 4||zf m 4)&&((b 5||zf m 5)&&((b 6||zf m 6)&&((b 7||zf m 7)&&((b 8||zf m 8)&&((b 9||zf m 9)&&((b 10||zf m 10)&&((b 11||zf m 11)&&((b 12||zf m 12)&&((b 13||zf m 13)&&((b 14||zf m 14)&&true)))))))))))))))
 simp only [Bool.true_and,Bool.and_true]
 ac_rfl
theorem Zrx:Zik false=Wo:=by funext i; simp [Zik]
theorem JH {n:Nat} {m:Msg} (h:rest n m=true) (g:Nat) (hg:g < 15) (hc:(kf n).contains g=false):zf m g=true:=by
 have this:((kf n).contains g||zf m g)=true:=(List.all_eq_true.1 h) g (List.mem_range.2 hg)
 rwa [hc,Bool.false_or] at this
theorem Jj {m:Msg} (h:zf m 5=true):m.nodes.all ZF=true:=by
 have h0:m.nodes.length=0:=of_decide_eq_true h
 rw [List.length_eq_zero_iff.1 h0]; rfl
theorem Wk {m:Msg} (h:zf m 0=true):Z1 m.region=true:=by
 have h0:m.region=0:=of_decide_eq_true h
 rw [h0]; rfl
theorem ZwN (m:Msg) (h:m.Fits) (hk:m.kind=1) (h1:Jy m.view=true) (h2:Zs m.frm=true) (h3:Zs m.to=true):G10 m=some ((kf 1).all (Zh m)&&rest 1 m):=by
 have L:∀ ok,G10L m m.kind m.view m.frm m.to 0 m.region 0 0 0 0 0 false m.req.id.core m.req.id.op m.req.id.part m.req.call.kind m.req.call.slot m.req.call.dest m.req.call.core m.req.call.mask m.req.call.object m.req.call.bits m.req.call.level m.req.call.offset m.req.call.count m.req.call.index m.req.call.addr m.req.region m.req.width m.req.src.id.core m.req.src.id.op m.req.src.id.part (Zb m.req.src.path) m.req.src.cap.kind m.req.src.cap.base m.req.src.cap.bits m.req.src.cap.rights m.req.src.cap.width m.req.src.cap.level m.req.src.cap.device E0 E0 E0 E0 0 0 E0 E0 E0 E0 E0 E0 E0 E0 0 0 E0 E0 E0 E0 E0 E0 E0 E0 false 0 E0 E0 E0 E0 E0 E0 E0 E0 ok 0=some (ok&&(m.nodes.all ZF&&(Z1 m.region&&rest 1 m))):=fun ok=>by
  have q:=l56 m (sel (fun g=>(kf 1).contains g) m) h (JE _ h) m.nodes.length 0 Zx ok (by omega) (by have:=JL h.nodes; omega)
  rw [List.drop_zero,JF] at q
  exact q
 unfold G10
 rw [Yr,if_neg (show ¬ (cop .lss m.kind 1)=true by simp only [CQ]; omega),if_neg (show ¬ (cop .gtr m.kind 17)=true by simp only [CQ]; omega),s89,Option.bind_some,h1,s90,Option.bind_some,h2,s90,Option.bind_some,h3]
 rw [if_neg (show ¬ (!true)=true by decide),if_neg (show ¬ (!true)=true by decide),if_neg (show ¬ (!true)=true by decide)]
 rw [if_pos (keq hk)]
 simp only [L,s91 _ h.req,Option.bind_some]
 cases hr:rest 1 m with
 | false =>
  simp only [Bool.and_false]
  repeat' split
  all_goals rfl
 | true =>
  have hn:=Jj (JH hr 5 (by omega) rfl)
  show _=some ((Zh m 0&&(Zh m 1&&true))&&true)
  repeat' split
  all_goals (refine congrArg some ?_; rw [Zj]; simp only [Zh,Jl,CQ] at * <;> grind)
theorem Zxw (m:Msg) (h:m.Fits) (hk:m.kind=2) (h1:Jy m.view=true) (h2:Zs m.frm=true) (h3:Zs m.to=true):G10 m=some ((kf 2).all (Zh m)&&rest 2 m):=by
 have L:∀ ok,G10L m m.kind m.view m.frm m.to 0 m.region 0 m.op.core m.op.op m.op.part m.err m.settled 0 0 0 0 0 0 0 0 0 0 0 0 0 0 0 0 0 0 0 0 E0 0 0 0 0 0 0 false E0 (m.nodes.map Ju) E0 E0 0 0 E0 E0 E0 E0 E0 E0 E0 E0 0 0 E0 E0 E0 E0 E0 E0 E0 E0 false 0 E0 E0 E0 E0 E0 E0 E0 E0 ok 0=some (ok&&(m.nodes.all ZF&&(Z1 m.region&&rest 2 m))):=fun ok=>by
  have q:=l56 m (sel (fun g=>(kf 2).contains g) m) h (JE _ h) m.nodes.length 0 Zx ok (by omega) (by have:=JL h.nodes; omega)
  rw [List.drop_zero,JF] at q
  exact q
 unfold G10
 rw [Yr,if_neg (show ¬ (cop .lss m.kind 1)=true by simp only [CQ]; omega),if_neg (show ¬ (cop .gtr m.kind 17)=true by simp only [CQ]; omega),s89,Option.bind_some,h1,s90,Option.bind_some,h2,s90,Option.bind_some,h3]
 rw [if_neg (show ¬ (!true)=true by decide),if_neg (show ¬ (!true)=true by decide),if_neg (show ¬ (!true)=true by decide)]
 rw [if_neg (kne (show m.kind≠1 by omega))]
 rw [if_pos (keq hk)]
 simp only [L,s92,s93,List.length_map,Option.bind_some]
 cases hr:rest 2 m with
 | false =>
  simp only [Bool.and_false]
  repeat' split
  all_goals rfl
 | true =>
  show _=some ((Zh m 0&&(Zh m 2&&(Zh m 3&&(Zh m 4&&(Zh m 5&&true)))))&&true)
  repeat' split
  all_goals (refine congrArg some ?_; rw [Zj]; simp only [Zh,Jl,CQ] at * <;> grind)
theorem Zv7 (m:Msg) (h:m.Fits) (hk:m.kind=3) (h1:Jy m.view=true) (h2:Zs m.frm=true) (h3:Zs m.to=true):G10 m=some ((kf 3).all (Zh m)&&rest 3 m):=by
 have L:∀ ok,G10L m m.kind m.view m.frm m.to 0 m.region 0 m.op.core m.op.op m.op.part 0 false 0 0 0 0 0 0 0 0 0 0 0 0 0 0 0 0 0 0 0 0 E0 0 0 0 0 0 0 false E0 E0 E0 E0 0 0 E0 E0 E0 E0 E0 E0 E0 E0 0 0 E0 E0 E0 E0 E0 E0 E0 E0 false 0 E0 E0 E0 E0 E0 E0 E0 E0 ok 0=some (ok&&(m.nodes.all ZF&&(Z1 m.region&&rest 3 m))):=fun ok=>by
  have q:=l56 m (sel (fun g=>(kf 3).contains g) m) h (JE _ h) m.nodes.length 0 Zx ok (by omega) (by have:=JL h.nodes; omega)
  rw [List.drop_zero,JF] at q
  exact q
 unfold G10
 rw [Yr,if_neg (show ¬ (cop .lss m.kind 1)=true by simp only [CQ]; omega),if_neg (show ¬ (cop .gtr m.kind 17)=true by simp only [CQ]; omega),s89,Option.bind_some,h1,s90,Option.bind_some,h2,s90,Option.bind_some,h3]
 rw [if_neg (show ¬ (!true)=true by decide),if_neg (show ¬ (!true)=true by decide),if_neg (show ¬ (!true)=true by decide)]
 rw [if_neg (kne (show m.kind≠1 by omega))]
 rw [if_neg (kne (show m.kind≠2 by omega))]
 rw [if_neg (kne (show m.kind≠4 by omega))]
 rw [if_neg (kne (show m.kind≠5 by omega))]
 rw [if_neg (kne (show m.kind≠6 by omega))]
 rw [if_neg (kne (show m.kind≠12 by omega))]
 rw [if_neg (kne (show m.kind≠13 by omega))]
 rw [if_neg (kne (show m.kind≠14 by omega))]
 rw [if_neg (kne (show m.kind≠15 by omega))]
 rw [if_neg (kne (show m.kind≠16 by omega))]
 rw [if_neg (kne (show m.kind≠17 by omega))]
 simp only [L,s92,Option.bind_some]
 cases hr:rest 3 m with
 | false =>
  simp only [Bool.and_false]
  repeat' split
  all_goals rfl
 | true =>
  have hn:=Jj (JH hr 5 (by omega) rfl)
  show _=some ((Zh m 0&&(Zh m 2&&true))&&true)
  repeat' split
  all_goals (refine congrArg some ?_; rw [Zj]; simp only [Zh,Jl,CQ] at * <;> grind)
theorem Zw4 (m:Msg) (h:m.Fits) (hk:m.kind=4) (h1:Jy m.view=true) (h2:Zs m.frm=true) (h3:Zs m.to=true):G10 m=some ((kf 4).all (Zh m)&&rest 4 m):=by
 have L:∀ ok,G10L m m.kind m.view m.frm m.to 0 m.region m.slot m.op.core m.op.op m.op.part 0 false 0 0 0 0 0 0 0 0 0 0 0 0 0 0 0 0 0 0 0 0 E0 0 0 0 0 0 0 false E0 (m.nodes.map Ju) E0 E0 0 0 E0 E0 E0 E0 E0 E0 E0 E0 0 0 E0 E0 E0 E0 E0 E0 E0 E0 false 0 E0 E0 E0 E0 E0 E0 E0 E0 ok 0=some (ok&&(m.nodes.all ZF&&(Z1 m.region&&rest 4 m))):=fun ok=>by
  have q:=l56 m (sel (fun g=>(kf 4).contains g) m) h (JE _ h) m.nodes.length 0 Zx ok (by omega) (by have:=JL h.nodes; omega)
  rw [List.drop_zero,JF] at q
  exact q
 unfold G10
 rw [Yr,if_neg (show ¬ (cop .lss m.kind 1)=true by simp only [CQ]; omega),if_neg (show ¬ (cop .gtr m.kind 17)=true by simp only [CQ]; omega),s89,Option.bind_some,h1,s90,Option.bind_some,h2,s90,Option.bind_some,h3]
 rw [if_neg (show ¬ (!true)=true by decide),if_neg (show ¬ (!true)=true by decide),if_neg (show ¬ (!true)=true by decide)]
 rw [if_neg (kne (show m.kind≠1 by omega))]
 rw [if_neg (kne (show m.kind≠2 by omega))]
 rw [if_pos (keq hk)]
 simp only [L,s92,List.length_map,Option.bind_some]
 cases hr:rest 4 m with
 | false =>
  simp only [Bool.and_false]
  repeat' split
  all_goals rfl
 | true =>
  show _=some ((Zh m 0&&(Zh m 2&&(Zh m 6&&(Zh m 5&&true))))&&true)
  repeat' split
  all_goals (refine congrArg some ?_; rw [Zj]; simp only [Zh,Jl,CQ] at * <;> grind)
theorem Zww (m:Msg) (h:m.Fits) (hk:m.kind=5) (h1:Jy m.view=true) (h2:Zs m.frm=true) (h3:Zs m.to=true):G10 m=some ((kf 5).all (Zh m)&&rest 5 m):=by
 have L:∀ ok,G10L m m.kind m.view m.frm m.to 0 m.region 0 m.op.core m.op.op m.op.part m.err false 0 0 0 0 0 0 0 0 0 0 0 0 0 0 0 0 0 0 0 0 E0 0 0 0 0 0 0 false E0 E0 E0 E0 0 0 E0 E0 E0 E0 E0 E0 E0 E0 0 0 E0 E0 E0 E0 E0 E0 E0 E0 false 0 E0 E0 E0 E0 E0 E0 E0 E0 ok 0=some (ok&&(m.nodes.all ZF&&(Z1 m.region&&rest 5 m))):=fun ok=>by
  have q:=l56 m (sel (fun g=>(kf 5).contains g) m) h (JE _ h) m.nodes.length 0 Zx ok (by omega) (by have:=JL h.nodes; omega)
  rw [List.drop_zero,JF] at q
  exact q
 unfold G10
 rw [Yr,if_neg (show ¬ (cop .lss m.kind 1)=true by simp only [CQ]; omega),if_neg (show ¬ (cop .gtr m.kind 17)=true by simp only [CQ]; omega),s89,Option.bind_some,h1,s90,Option.bind_some,h2,s90,Option.bind_some,h3]
 rw [if_neg (show ¬ (!true)=true by decide),if_neg (show ¬ (!true)=true by decide),if_neg (show ¬ (!true)=true by decide)]
 rw [if_neg (kne (show m.kind≠1 by omega))]
 rw [if_neg (kne (show m.kind≠2 by omega))]
 rw [if_neg (kne (show m.kind≠4 by omega))]
 rw [if_pos (keq hk)]
 simp only [L,s92,s93,Option.bind_some]
 cases hr:rest 5 m with
 | false =>
  simp only [Bool.and_false]
  repeat' split
  all_goals rfl
 | true =>
  have hn:=Jj (JH hr 5 (by omega) rfl)
  show _=some ((Zh m 0&&(Zh m 2&&(Zh m 3&&true)))&&true)
  repeat' split
  all_goals (refine congrArg some ?_; rw [Zj]; simp only [Zh,Jl,CQ] at * <;> grind)
theorem Zya (m:Msg) (h:m.Fits) (hk:m.kind=6) (h1:Jy m.view=true) (h2:Zs m.frm=true) (h3:Zs m.to=true):G10 m=some ((kf 6).all (Zh m)&&rest 6 m):=by
 have L:∀ ok,G10L m m.kind m.view m.frm m.to 0 m.region 0 m.op.core m.op.op m.op.part 0 false 0 0 0 0 0 0 0 0 0 0 0 0 0 0 0 0 0 0 0 0 E0 0 0 0 0 0 0 false (Zb m.ids) E0 E0 E0 0 0 E0 E0 E0 E0 E0 E0 E0 E0 0 0 E0 E0 E0 E0 E0 E0 E0 E0 false 0 E0 E0 E0 E0 E0 E0 E0 E0 ok 0=some (ok&&(m.nodes.all ZF&&(Z1 m.region&&rest 6 m))):=fun ok=>by
  have q:=l56 m (sel (fun g=>(kf 6).contains g) m) h (JE _ h) m.nodes.length 0 Zx ok (by omega) (by have:=JL h.nodes; omega)
  rw [List.drop_zero,JF] at q
  exact q
 unfold G10
 rw [Yr,if_neg (show ¬ (cop .lss m.kind 1)=true by simp only [CQ]; omega),if_neg (show ¬ (cop .gtr m.kind 17)=true by simp only [CQ]; omega),s89,Option.bind_some,h1,s90,Option.bind_some,h2,s90,Option.bind_some,h3]
 rw [if_neg (show ¬ (!true)=true by decide),if_neg (show ¬ (!true)=true by decide),if_neg (show ¬ (!true)=true by decide)]
 rw [if_neg (kne (show m.kind≠1 by omega))]
 rw [if_neg (kne (show m.kind≠2 by omega))]
 rw [if_neg (kne (show m.kind≠4 by omega))]
 rw [if_neg (kne (show m.kind≠5 by omega))]
 rw [if_pos (keq hk)]
 simp only [L,s92,s94 _ _ h.ids,Z0,Zrx,Option.bind_some]
 cases hr:rest 6 m with
 | false =>
  simp only [Bool.and_false]
  repeat' split
  all_goals rfl
 | true =>
  have hn:=Jj (JH hr 5 (by omega) rfl)
  show _=some ((Zh m 0&&(Zh m 2&&(Zh m 7&&true)))&&true)
  repeat' split
  all_goals (refine congrArg some ?_; rw [Zj]; simp only [Zh,Jl,CQ] at * <;> grind)
theorem Zw9 (m:Msg) (h:m.Fits) (hk:m.kind=7) (h1:Jy m.view=true) (h2:Zs m.frm=true) (h3:Zs m.to=true):G10 m=some ((kf 7).all (Zh m)&&rest 7 m):=by
 have L:∀ ok,G10L m m.kind m.view m.frm m.to 0 m.region 0 m.op.core m.op.op m.op.part 0 false 0 0 0 0 0 0 0 0 0 0 0 0 0 0 0 0 0 0 0 0 E0 0 0 0 0 0 0 false E0 E0 E0 E0 0 0 E0 E0 E0 E0 E0 E0 E0 E0 0 0 E0 E0 E0 E0 E0 E0 E0 E0 false 0 E0 E0 E0 E0 E0 E0 E0 E0 ok 0=some (ok&&(m.nodes.all ZF&&(Z1 m.region&&rest 7 m))):=fun ok=>by
  have q:=l56 m (sel (fun g=>(kf 7).contains g) m) h (JE _ h) m.nodes.length 0 Zx ok (by omega) (by have:=JL h.nodes; omega)
  rw [List.drop_zero,JF] at q
  exact q
 unfold G10
 rw [Yr,if_neg (show ¬ (cop .lss m.kind 1)=true by simp only [CQ]; omega),if_neg (show ¬ (cop .gtr m.kind 17)=true by simp only [CQ]; omega),s89,Option.bind_some,h1,s90,Option.bind_some,h2,s90,Option.bind_some,h3]
 rw [if_neg (show ¬ (!true)=true by decide),if_neg (show ¬ (!true)=true by decide),if_neg (show ¬ (!true)=true by decide)]
 rw [if_neg (kne (show m.kind≠1 by omega))]
 rw [if_neg (kne (show m.kind≠2 by omega))]
 rw [if_neg (kne (show m.kind≠4 by omega))]
 rw [if_neg (kne (show m.kind≠5 by omega))]
 rw [if_neg (kne (show m.kind≠6 by omega))]
 rw [if_neg (kne (show m.kind≠12 by omega))]
 rw [if_neg (kne (show m.kind≠13 by omega))]
 rw [if_neg (kne (show m.kind≠14 by omega))]
 rw [if_neg (kne (show m.kind≠15 by omega))]
 rw [if_neg (kne (show m.kind≠16 by omega))]
 rw [if_neg (kne (show m.kind≠17 by omega))]
 simp only [L,s92,Option.bind_some]
 cases hr:rest 7 m with
 | false =>
  simp only [Bool.and_false]
  repeat' split
  all_goals rfl
 | true =>
  have hn:=Jj (JH hr 5 (by omega) rfl)
  show _=some ((Zh m 0&&(Zh m 2&&true))&&true)
  repeat' split
  all_goals (refine congrArg some ?_; rw [Zj]; simp only [Zh,Jl,CQ] at * <;> grind)
theorem Zyd (m:Msg) (h:m.Fits) (hk:m.kind=8) (h1:Jy m.view=true) (h2:Zs m.frm=true) (h3:Zs m.to=true):G10 m=some ((kf 8).all (Zh m)&&rest 8 m):=by
 have L:∀ ok,G10L m m.kind m.view m.frm m.to 0 m.region 0 m.op.core m.op.op m.op.part 0 false 0 0 0 0 0 0 0 0 0 0 0 0 0 0 0 0 0 0 0 0 E0 0 0 0 0 0 0 false E0 E0 E0 E0 0 0 E0 E0 E0 E0 E0 E0 E0 E0 0 0 E0 E0 E0 E0 E0 E0 E0 E0 false 0 E0 E0 E0 E0 E0 E0 E0 E0 ok 0=some (ok&&(m.nodes.all ZF&&(Z1 m.region&&rest 8 m))):=fun ok=>by
  have q:=l56 m (sel (fun g=>(kf 8).contains g) m) h (JE _ h) m.nodes.length 0 Zx ok (by omega) (by have:=JL h.nodes; omega)
  rw [List.drop_zero,JF] at q
  exact q
 unfold G10
 rw [Yr,if_neg (show ¬ (cop .lss m.kind 1)=true by simp only [CQ]; omega),if_neg (show ¬ (cop .gtr m.kind 17)=true by simp only [CQ]; omega),s89,Option.bind_some,h1,s90,Option.bind_some,h2,s90,Option.bind_some,h3]
 rw [if_neg (show ¬ (!true)=true by decide),if_neg (show ¬ (!true)=true by decide),if_neg (show ¬ (!true)=true by decide)]
 rw [if_neg (kne (show m.kind≠1 by omega))]
 rw [if_neg (kne (show m.kind≠2 by omega))]
 rw [if_neg (kne (show m.kind≠4 by omega))]
 rw [if_neg (kne (show m.kind≠5 by omega))]
 rw [if_neg (kne (show m.kind≠6 by omega))]
 rw [if_neg (kne (show m.kind≠12 by omega))]
 rw [if_neg (kne (show m.kind≠13 by omega))]
 rw [if_neg (kne (show m.kind≠14 by omega))]
 rw [if_neg (kne (show m.kind≠15 by omega))]
 rw [if_neg (kne (show m.kind≠16 by omega))]
 rw [if_neg (kne (show m.kind≠17 by omega))]
 simp only [L,s92,Option.bind_some]
 cases hr:rest 8 m with
 | false =>
  simp only [Bool.and_false]
  repeat' split
  all_goals rfl
 | true =>
  have hn:=Jj (JH hr 5 (by omega) rfl)
  show _=some ((Zh m 0&&(Zh m 2&&true))&&true)
  repeat' split
  all_goals (refine congrArg some ?_; rw [Zj]; simp only [Zh,Jl,CQ] at * <;> grind)
theorem Zwf (m:Msg) (h:m.Fits) (hk:m.kind=9) (h1:Jy m.view=true) (h2:Zs m.frm=true) (h3:Zs m.to=true):G10 m=some ((kf 9).all (Zh m)&&rest 9 m):=by
 have L:∀ ok,G10L m m.kind m.view m.frm m.to 0 m.region 0 m.op.core m.op.op m.op.part 0 false 0 0 0 0 0 0 0 0 0 0 0 0 0 0 0 0 0 0 0 0 E0 0 0 0 0 0 0 false E0 E0 E0 E0 0 0 E0 E0 E0 E0 E0 E0 E0 E0 0 0 E0 E0 E0 E0 E0 E0 E0 E0 false 0 E0 E0 E0 E0 E0 E0 E0 E0 ok 0=some (ok&&(m.nodes.all ZF&&(Z1 m.region&&rest 9 m))):=fun ok=>by
  have q:=l56 m (sel (fun g=>(kf 9).contains g) m) h (JE _ h) m.nodes.length 0 Zx ok (by omega) (by have:=JL h.nodes; omega)
  rw [List.drop_zero,JF] at q
  exact q
 unfold G10
 rw [Yr,if_neg (show ¬ (cop .lss m.kind 1)=true by simp only [CQ]; omega),if_neg (show ¬ (cop .gtr m.kind 17)=true by simp only [CQ]; omega),s89,Option.bind_some,h1,s90,Option.bind_some,h2,s90,Option.bind_some,h3]
 rw [if_neg (show ¬ (!true)=true by decide),if_neg (show ¬ (!true)=true by decide),if_neg (show ¬ (!true)=true by decide)]
 rw [if_neg (kne (show m.kind≠1 by omega))]
 rw [if_neg (kne (show m.kind≠2 by omega))]
 rw [if_neg (kne (show m.kind≠4 by omega))]
 rw [if_neg (kne (show m.kind≠5 by omega))]
 rw [if_neg (kne (show m.kind≠6 by omega))]
 rw [if_neg (kne (show m.kind≠12 by omega))]
 rw [if_neg (kne (show m.kind≠13 by omega))]
 rw [if_neg (kne (show m.kind≠14 by omega))]
 rw [if_neg (kne (show m.kind≠15 by omega))]
 rw [if_neg (kne (show m.kind≠16 by omega))]
 rw [if_neg (kne (show m.kind≠17 by omega))]
 simp only [L,s92,Option.bind_some]
 cases hr:rest 9 m with
 | false =>
  simp only [Bool.and_false]
  repeat' split
  all_goals rfl
 | true =>
  have hn:=Jj (JH hr 5 (by omega) rfl)
  show _=some ((Zh m 0&&(Zh m 2&&true))&&true)
  repeat' split
  all_goals (refine congrArg some ?_; rw [Zj]; simp only [Zh,Jl,CQ] at * <;> grind)
theorem Zsr (m:Msg) (h:m.Fits) (hk:m.kind=10) (h1:Jy m.view=true) (h2:Zs m.frm=true) (h3:Zs m.to=true):G10 m=some ((kf 10).all (Zh m)&&rest 10 m):=by
 have L:∀ ok,G10L m m.kind m.view m.frm m.to 0 m.region 0 m.op.core m.op.op m.op.part 0 false 0 0 0 0 0 0 0 0 0 0 0 0 0 0 0 0 0 0 0 0 E0 0 0 0 0 0 0 false E0 E0 E0 E0 0 0 E0 E0 E0 E0 E0 E0 E0 E0 0 0 E0 E0 E0 E0 E0 E0 E0 E0 false 0 E0 E0 E0 E0 E0 E0 E0 E0 ok 0=some (ok&&(m.nodes.all ZF&&(Z1 m.region&&rest 10 m))):=fun ok=>by
  have q:=l56 m (sel (fun g=>(kf 10).contains g) m) h (JE _ h) m.nodes.length 0 Zx ok (by omega) (by have:=JL h.nodes; omega)
  rw [List.drop_zero,JF] at q
  exact q
 unfold G10
 rw [Yr,if_neg (show ¬ (cop .lss m.kind 1)=true by simp only [CQ]; omega),if_neg (show ¬ (cop .gtr m.kind 17)=true by simp only [CQ]; omega),s89,Option.bind_some,h1,s90,Option.bind_some,h2,s90,Option.bind_some,h3]
 rw [if_neg (show ¬ (!true)=true by decide),if_neg (show ¬ (!true)=true by decide),if_neg (show ¬ (!true)=true by decide)]
 rw [if_neg (kne (show m.kind≠1 by omega))]
 rw [if_neg (kne (show m.kind≠2 by omega))]
 rw [if_neg (kne (show m.kind≠4 by omega))]
 rw [if_neg (kne (show m.kind≠5 by omega))]
 rw [if_neg (kne (show m.kind≠6 by omega))]
 rw [if_neg (kne (show m.kind≠12 by omega))]
 rw [if_neg (kne (show m.kind≠13 by omega))]
 rw [if_neg (kne (show m.kind≠14 by omega))]
 rw [if_neg (kne (show m.kind≠15 by omega))]
 rw [if_neg (kne (show m.kind≠16 by omega))]
 rw [if_neg (kne (show m.kind≠17 by omega))]
 simp only [L,s92,Option.bind_some]
 cases hr:rest 10 m with
 | false =>
  simp only [Bool.and_false]
  repeat' split
  all_goals rfl
 | true =>
  have hn:=Jj (JH hr 5 (by omega) rfl)
  show _=some ((Zh m 0&&(Zh m 2&&true))&&true)
  repeat' split
  all_goals (refine congrArg some ?_; rw [Zj]; simp only [Zh,Jl,CQ] at * <;> grind)
theorem Zux (m:Msg) (h:m.Fits) (hk:m.kind=11) (h1:Jy m.view=true) (h2:Zs m.frm=true) (h3:Zs m.to=true):G10 m=some ((kf 11).all (Zh m)&&rest 11 m):=by
 have L:∀ ok,G10L m m.kind m.view m.frm m.to 0 m.region 0 m.op.core m.op.op m.op.part 0 false 0 0 0 0 0 0 0 0 0 0 0 0 0 0 0 0 0 0 0 0 E0 0 0 0 0 0 0 false E0 E0 E0 E0 0 0 E0 E0 E0 E0 E0 E0 E0 E0 0 0 E0 E0 E0 E0 E0 E0 E0 E0 false 0 E0 E0 E0 E0 E0 E0 E0 E0 ok 0=some (ok&&(m.nodes.all ZF&&(Z1 m.region&&rest 11 m))):=fun ok=>by
  have q:=l56 m (sel (fun g=>(kf 11).contains g) m) h (JE _ h) m.nodes.length 0 Zx ok (by omega) (by have:=JL h.nodes; omega)
  rw [List.drop_zero,JF] at q
  exact q
 unfold G10
 rw [Yr,if_neg (show ¬ (cop .lss m.kind 1)=true by simp only [CQ]; omega),if_neg (show ¬ (cop .gtr m.kind 17)=true by simp only [CQ]; omega),s89,Option.bind_some,h1,s90,Option.bind_some,h2,s90,Option.bind_some,h3]
 rw [if_neg (show ¬ (!true)=true by decide),if_neg (show ¬ (!true)=true by decide),if_neg (show ¬ (!true)=true by decide)]
 rw [if_neg (kne (show m.kind≠1 by omega))]
 rw [if_neg (kne (show m.kind≠2 by omega))]
 rw [if_neg (kne (show m.kind≠4 by omega))]
 rw [if_neg (kne (show m.kind≠5 by omega))]
 rw [if_neg (kne (show m.kind≠6 by omega))]
 rw [if_neg (kne (show m.kind≠12 by omega))]
 rw [if_neg (kne (show m.kind≠13 by omega))]
 rw [if_neg (kne (show m.kind≠14 by omega))]
 rw [if_neg (kne (show m.kind≠15 by omega))]
 rw [if_neg (kne (show m.kind≠16 by omega))]
 rw [if_neg (kne (show m.kind≠17 by omega))]
 simp only [L,s92,Option.bind_some]
 cases hr:rest 11 m with
 | false =>
  simp only [Bool.and_false]
  repeat' split
  all_goals rfl
 | true =>
  have hn:=Jj (JH hr 5 (by omega) rfl)
  show _=some ((Zh m 0&&(Zh m 2&&true))&&true)
  repeat' split
  all_goals (refine congrArg some ?_; rw [Zj]; simp only [Zh,Jl,CQ] at * <;> grind)
theorem Zu1 (m:Msg) (h:m.Fits) (hk:m.kind=12) (h1:Jy m.view=true) (h2:Zs m.frm=true) (h3:Zs m.to=true):G10 m=some ((kf 12).all (Zh m)&&rest 12 m):=by
 have L:∀ ok,G10L m m.kind m.view m.frm m.to m.round 0 0 0 0 0 0 false 0 0 0 0 0 0 0 0 0 0 0 0 0 0 0 0 0 0 0 0 E0 0 0 0 0 0 0 false E0 E0 (Za m.cores) E0 0 0 E0 E0 E0 E0 E0 E0 E0 E0 0 0 E0 E0 E0 E0 E0 E0 E0 E0 false 0 E0 E0 E0 E0 E0 E0 E0 E0 ok 0=some (ok&&(m.nodes.all ZF&&(Z1 m.region&&rest 12 m))):=fun ok=>by
  have q:=l56 m (sel (fun g=>(kf 12).contains g) m) h (JE _ h) m.nodes.length 0 Zx ok (by omega) (by have:=JL h.nodes; omega)
  rw [List.drop_zero,JF] at q
  exact q
 unfold G10
 rw [Yr,if_neg (show ¬ (cop .lss m.kind 1)=true by simp only [CQ]; omega),if_neg (show ¬ (cop .gtr m.kind 17)=true by simp only [CQ]; omega),s89,Option.bind_some,h1,s90,Option.bind_some,h2,s90,Option.bind_some,h3]
 rw [if_neg (show ¬ (!true)=true by decide),if_neg (show ¬ (!true)=true by decide),if_neg (show ¬ (!true)=true by decide)]
 rw [if_neg (kne (show m.kind≠1 by omega))]
 rw [if_neg (kne (show m.kind≠2 by omega))]
 rw [if_neg (kne (show m.kind≠4 by omega))]
 rw [if_neg (kne (show m.kind≠5 by omega))]
 rw [if_neg (kne (show m.kind≠6 by omega))]
 rw [if_pos (keq hk)]
 simp only [L,s89,s95 _ h.cores,Option.bind_some]
 cases hr:rest 12 m with
 | false =>
  simp only [Bool.and_false]
  repeat' split
  all_goals rfl
 | true =>
  have hn:=Jj (JH hr 5 (by omega) rfl)
  have hg:=Wk (JH hr 0 (by omega) rfl)
  show _=some ((Zh m 8&&(Zh m 9&&true))&&true)
  repeat' split
  all_goals (refine congrArg some ?_; rw [Zj]; simp only [Zh,Jl,CQ] at * <;> grind)
theorem ZtW (m:Msg) (h:m.Fits) (hk:m.kind=13) (h1:Jy m.view=true) (h2:Zs m.frm=true) (h3:Zs m.to=true):G10 m=some ((kf 13).all (Zh m)&&rest 13 m):=by
 have L:∀ ok,G10L m m.kind m.view m.frm m.to m.round 0 0 0 0 0 0 false 0 0 0 0 0 0 0 0 0 0 0 0 0 0 0 0 0 0 0 0 E0 0 0 0 0 0 0 false E0 E0 E0 E0 0 0 E0 E0 E0 E0 E0 E0 E0 E0 m.report.core m.report.view.number (Za m.report.view.members) (Za m.report.view.owners) (m.report.state.slots.map Zg) (m.report.state.pending.map ZM) (m.report.state.marks.map Zk) (m.report.state.answers.map ZS) (m.report.state.entries.map Ze) (Zb m.report.state.commits) m.report.ready m.report.next.number (Za m.report.next.members) (Za m.report.next.owners) (m.report.proposal.slots.map Zg) (m.report.proposal.pending.map ZM) (m.report.proposal.marks.map Zk) (m.report.proposal.answers.map ZS) (m.report.proposal.entries.map Ze) (Zb m.report.proposal.commits) ok 0=some (ok&&(m.nodes.all ZF&&(Z1 m.region&&rest 13 m))):=fun ok=>by
  have q:=l56 m (sel (fun g=>(kf 13).contains g) m) h (JE _ h) m.nodes.length 0 Zx ok (by omega) (by have:=JL h.nodes; omega)
  rw [List.drop_zero,JF] at q
  exact q
 unfold G10
 rw [Yr,if_neg (show ¬ (cop .lss m.kind 1)=true by simp only [CQ]; omega),if_neg (show ¬ (cop .gtr m.kind 17)=true by simp only [CQ]; omega),s89,Option.bind_some,h1,s90,Option.bind_some,h2,s90,Option.bind_some,h3]
 rw [if_neg (show ¬ (!true)=true by decide),if_neg (show ¬ (!true)=true by decide),if_neg (show ¬ (!true)=true by decide)]
 rw [if_neg (kne (show m.kind≠1 by omega))]
 rw [if_neg (kne (show m.kind≠2 by omega))]
 rw [if_neg (kne (show m.kind≠4 by omega))]
 rw [if_neg (kne (show m.kind≠5 by omega))]
 rw [if_neg (kne (show m.kind≠6 by omega))]
 rw [if_neg (kne (show m.kind≠12 by omega))]
 rw [if_pos (keq hk)]
 simp only [L,s89,s96 _ h.report,Option.bind_some]
 cases hr:rest 13 m with
 | false =>
  simp only [Bool.and_false]
  repeat' split
  all_goals rfl
 | true =>
  have hn:=Jj (JH hr 5 (by omega) rfl)
  have hg:=Wk (JH hr 0 (by omega) rfl)
  show _=some ((Zh m 8&&(Zh m 10&&true))&&true)
  repeat' split
  all_goals (refine congrArg some ?_; rw [Zj]; simp only [Zh,Jl,CQ] at * <;> grind)
theorem Zun (m:Msg) (h:m.Fits) (hk:m.kind=14) (h1:Jy m.view=true) (h2:Zs m.frm=true) (h3:Zs m.to=true):G10 m=some ((kf 14).all (Zh m)&&rest 14 m):=by
 have L:∀ ok,G10L m m.kind m.view m.frm m.to m.round 0 0 0 0 0 0 false 0 0 0 0 0 0 0 0 0 0 0 0 0 0 0 0 0 0 0 0 E0 0 0 0 0 0 0 false E0 E0 (Za m.cores) E0 m.base m.next.number (Za m.next.members) (Za m.next.owners) (m.state.slots.map Zg) (m.state.pending.map ZM) (m.state.marks.map Zk) (m.state.answers.map ZS) (m.state.entries.map Ze) (Zb m.state.commits) 0 0 E0 E0 E0 E0 E0 E0 E0 E0 false 0 E0 E0 E0 E0 E0 E0 E0 E0 ok 0=some (ok&&(m.nodes.all ZF&&(Z1 m.region&&rest 14 m))):=fun ok=>by
  have q:=l56 m (sel (fun g=>(kf 14).contains g) m) h (JE _ h) m.nodes.length 0 Zx ok (by omega) (by have:=JL h.nodes; omega)
  rw [List.drop_zero,JF] at q
  exact q
 unfold G10
 rw [Yr,if_neg (show ¬ (cop .lss m.kind 1)=true by simp only [CQ]; omega),if_neg (show ¬ (cop .gtr m.kind 17)=true by simp only [CQ]; omega),s89,Option.bind_some,h1,s90,Option.bind_some,h2,s90,Option.bind_some,h3]
 rw [if_neg (show ¬ (!true)=true by decide),if_neg (show ¬ (!true)=true by decide),if_neg (show ¬ (!true)=true by decide)]
 rw [if_neg (kne (show m.kind≠1 by omega))]
 rw [if_neg (kne (show m.kind≠2 by omega))]
 rw [if_neg (kne (show m.kind≠4 by omega))]
 rw [if_neg (kne (show m.kind≠5 by omega))]
 rw [if_neg (kne (show m.kind≠6 by omega))]
 rw [if_neg (kne (show m.kind≠12 by omega))]
 rw [if_neg (kne (show m.kind≠13 by omega))]
 rw [if_pos (keq hk)]
 simp only [L,s89,s95 _ h.cores,s97 _ h.next.members h.next.owners,s98 _ h.state,Option.bind_some]
 cases hr:rest 14 m with
 | false =>
  simp only [Bool.and_false]
  repeat' split
  all_goals rfl
 | true =>
  have hn:=Jj (JH hr 5 (by omega) rfl)
  have hg:=Wk (JH hr 0 (by omega) rfl)
  show _=some ((Zh m 8&&(Zh m 11&&(Zh m 9&&(Zh m 12&&(Zh m 13&&true)))))&&true)
  repeat' split
  all_goals (refine congrArg some ?_; rw [Zj]; simp only [Zh,Jl,CQ] at * <;> grind)
theorem ZsV (m:Msg) (h:m.Fits) (hk:m.kind=15) (h1:Jy m.view=true) (h2:Zs m.frm=true) (h3:Zs m.to=true):G10 m=some ((kf 15).all (Zh m)&&rest 15 m):=by
 have L:∀ ok,G10L m m.kind m.view m.frm m.to m.round 0 0 0 0 0 0 false 0 0 0 0 0 0 0 0 0 0 0 0 0 0 0 0 0 0 0 0 E0 0 0 0 0 0 0 false E0 E0 E0 E0 0 0 E0 E0 E0 E0 E0 E0 E0 E0 0 0 E0 E0 E0 E0 E0 E0 E0 E0 false 0 E0 E0 E0 E0 E0 E0 E0 E0 ok 0=some (ok&&(m.nodes.all ZF&&(Z1 m.region&&rest 15 m))):=fun ok=>by
  have q:=l56 m (sel (fun g=>(kf 15).contains g) m) h (JE _ h) m.nodes.length 0 Zx ok (by omega) (by have:=JL h.nodes; omega)
  rw [List.drop_zero,JF] at q
  exact q
 unfold G10
 rw [Yr,if_neg (show ¬ (cop .lss m.kind 1)=true by simp only [CQ]; omega),if_neg (show ¬ (cop .gtr m.kind 17)=true by simp only [CQ]; omega),s89,Option.bind_some,h1,s90,Option.bind_some,h2,s90,Option.bind_some,h3]
 rw [if_neg (show ¬ (!true)=true by decide),if_neg (show ¬ (!true)=true by decide),if_neg (show ¬ (!true)=true by decide)]
 rw [if_neg (kne (show m.kind≠1 by omega))]
 rw [if_neg (kne (show m.kind≠2 by omega))]
 rw [if_neg (kne (show m.kind≠4 by omega))]
 rw [if_neg (kne (show m.kind≠5 by omega))]
 rw [if_neg (kne (show m.kind≠6 by omega))]
 rw [if_neg (kne (show m.kind≠12 by omega))]
 rw [if_neg (kne (show m.kind≠13 by omega))]
 rw [if_neg (kne (show m.kind≠14 by omega))]
 rw [if_pos (keq hk)]
 simp only [L,s89,Option.bind_some]
 cases hr:rest 15 m with
 | false =>
  simp only [Bool.and_false]
  repeat' split
  all_goals rfl
 | true =>
  have hn:=Jj (JH hr 5 (by omega) rfl)
  have hg:=Wk (JH hr 0 (by omega) rfl)
  show _=some ((Zh m 8&&true)&&true)
  repeat' split
  all_goals (refine congrArg some ?_; rw [Zj]; simp only [Zh,Jl,CQ] at * <;> grind)
theorem Zui (m:Msg) (h:m.Fits) (hk:m.kind=16) (h1:Jy m.view=true) (h2:Zs m.frm=true) (h3:Zs m.to=true):G10 m=some ((kf 16).all (Zh m)&&rest 16 m):=by
 have L:∀ ok,G10L m m.kind m.view m.frm m.to m.round 0 0 0 0 0 0 false 0 0 0 0 0 0 0 0 0 0 0 0 0 0 0 0 0 0 0 0 E0 0 0 0 0 0 0 false E0 E0 E0 E0 0 0 E0 E0 E0 E0 E0 E0 E0 E0 0 0 E0 E0 E0 E0 E0 E0 E0 E0 false 0 E0 E0 E0 E0 E0 E0 E0 E0 ok 0=some (ok&&(m.nodes.all ZF&&(Z1 m.region&&rest 16 m))):=fun ok=>by
  have q:=l56 m (sel (fun g=>(kf 16).contains g) m) h (JE _ h) m.nodes.length 0 Zx ok (by omega) (by have:=JL h.nodes; omega)
  rw [List.drop_zero,JF] at q
  exact q
 unfold G10
 rw [Yr,if_neg (show ¬ (cop .lss m.kind 1)=true by simp only [CQ]; omega),if_neg (show ¬ (cop .gtr m.kind 17)=true by simp only [CQ]; omega),s89,Option.bind_some,h1,s90,Option.bind_some,h2,s90,Option.bind_some,h3]
 rw [if_neg (show ¬ (!true)=true by decide),if_neg (show ¬ (!true)=true by decide),if_neg (show ¬ (!true)=true by decide)]
 rw [if_neg (kne (show m.kind≠1 by omega))]
 rw [if_neg (kne (show m.kind≠2 by omega))]
 rw [if_neg (kne (show m.kind≠4 by omega))]
 rw [if_neg (kne (show m.kind≠5 by omega))]
 rw [if_neg (kne (show m.kind≠6 by omega))]
 rw [if_neg (kne (show m.kind≠12 by omega))]
 rw [if_neg (kne (show m.kind≠13 by omega))]
 rw [if_neg (kne (show m.kind≠14 by omega))]
 rw [if_neg (kne (show m.kind≠15 by omega))]
 rw [if_pos (keq hk)]
 simp only [L,s89,Option.bind_some]
 cases hr:rest 16 m with
 | false =>
  simp only [Bool.and_false]
  repeat' split
  all_goals rfl
 | true =>
  have hn:=Jj (JH hr 5 (by omega) rfl)
  have hg:=Wk (JH hr 0 (by omega) rfl)
  show _=some ((Zh m 8&&true)&&true)
  repeat' split
  all_goals (refine congrArg some ?_; rw [Zj]; simp only [Zh,Jl,CQ] at * <;> grind)
theorem ZuO (m:Msg) (h:m.Fits) (hk:m.kind=17) (h1:Jy m.view=true) (h2:Zs m.frm=true) (h3:Zs m.to=true):G10 m=some ((kf 17).all (Zh m)&&rest 17 m):=by
 have L:∀ ok,G10L m m.kind m.view m.frm m.to 0 0 0 0 0 0 0 false 0 0 0 0 0 0 0 0 0 0 0 0 0 0 0 0 0 0 0 0 E0 0 0 0 0 0 0 false E0 E0 (Za m.cores) (m.moves.map Jw) 0 0 E0 E0 E0 E0 E0 E0 E0 E0 0 0 E0 E0 E0 E0 E0 E0 E0 E0 false 0 E0 E0 E0 E0 E0 E0 E0 E0 ok 0=some (ok&&(m.nodes.all ZF&&(Z1 m.region&&rest 17 m))):=fun ok=>by
  have q:=l56 m (sel (fun g=>(kf 17).contains g) m) h (JE _ h) m.nodes.length 0 Zx ok (by omega) (by have:=JL h.nodes; omega)
  rw [List.drop_zero,JF] at q
  exact q
 unfold G10
 rw [Yr,if_neg (show ¬ (cop .lss m.kind 1)=true by simp only [CQ]; omega),if_neg (show ¬ (cop .gtr m.kind 17)=true by simp only [CQ]; omega),s89,Option.bind_some,h1,s90,Option.bind_some,h2,s90,Option.bind_some,h3]
 rw [if_neg (show ¬ (!true)=true by decide),if_neg (show ¬ (!true)=true by decide),if_neg (show ¬ (!true)=true by decide)]
 rw [if_neg (kne (show m.kind≠1 by omega))]
 rw [if_neg (kne (show m.kind≠2 by omega))]
 rw [if_neg (kne (show m.kind≠4 by omega))]
 rw [if_neg (kne (show m.kind≠5 by omega))]
 rw [if_neg (kne (show m.kind≠6 by omega))]
 rw [if_neg (kne (show m.kind≠12 by omega))]
 rw [if_neg (kne (show m.kind≠13 by omega))]
 rw [if_neg (kne (show m.kind≠14 by omega))]
 rw [if_neg (kne (show m.kind≠15 by omega))]
 rw [if_neg (kne (show m.kind≠16 by omega))]
 rw [if_pos (keq hk)]
 simp only [L,s95 _ h.cores,s99 _ h.moves,Option.bind_some]
 cases hr:rest 17 m with
 | false =>
  simp only [Bool.and_false]
  repeat' split
  all_goals rfl
 | true =>
  have hn:=Jj (JH hr 5 (by omega) rfl)
  have hg:=Wk (JH hr 0 (by omega) rfl)
  show _=some ((Zh m 9&&(Zh m 14&&true))&&true)
  repeat' split
  all_goals (refine congrArg some ?_; rw [Zj]; simp only [Zh,Jl,CQ] at * <;> grind)
theorem ZxM (m:Msg) (h:m.Fits):G10 m=some (Kk m):=by
 unfold Kk headOk
 by_cases hk:1≤m.kind∧m.kind≤17
 ·rw [show kindOk m.kind=true from decide_eq_true hk]
  cases h1:Jy m.view with
  | false =>
   unfold G10
   rw [Yr,if_neg (show ¬ (cop .lss m.kind 1)=true by simp only [CQ]; omega),if_neg (show ¬ (cop .gtr m.kind 17)=true by simp only [CQ]; omega),s89,Option.bind_some,h1]
   rfl
  | true =>
   cases h2:Zs m.frm with
   | false =>
    unfold G10
    rw [Yr,if_neg (show ¬ (cop .lss m.kind 1)=true by simp only [CQ]; omega),if_neg (show ¬ (cop .gtr m.kind 17)=true by simp only [CQ]; omega),s89,Option.bind_some,h1,s90,Option.bind_some,h2]
    rfl
   | true =>
    cases h3:Zs m.to with
    | false =>
     unfold G10
     rw [Yr,if_neg (show ¬ (cop .lss m.kind 1)=true by simp only [CQ]; omega),if_neg (show ¬ (cop .gtr m.kind 17)=true by simp only [CQ]; omega),s89,Option.bind_some,h1,s90,Option.bind_some,h2,s90,Option.bind_some,h3]
     rfl
    | true =>
     rcases (show m.kind=1∨m.kind=2∨m.kind=3∨m.kind=4∨m.kind=5∨m.kind=6∨m.kind=7∨m.kind=8∨m.kind=9∨m.kind=10∨m.kind=11∨m.kind=12∨m.kind=13∨m.kind=14∨m.kind=15∨m.kind=16∨m.kind=17 by omega) with e | e | e | e | e | e | e | e | e | e | e | e | e | e | e | e | e
     ·rw [ZwN m h e h1 h2 h3,e]; rfl
     ·rw [Zxw m h e h1 h2 h3,e]; rfl
     ·rw [Zv7 m h e h1 h2 h3,e]; rfl
     ·rw [Zw4 m h e h1 h2 h3,e]; rfl
     ·rw [Zww m h e h1 h2 h3,e]; rfl
     ·rw [Zya m h e h1 h2 h3,e]; rfl
     ·rw [Zw9 m h e h1 h2 h3,e]; rfl
     ·rw [Zyd m h e h1 h2 h3,e]; rfl
     ·rw [Zwf m h e h1 h2 h3,e]; rfl
     ·rw [Zsr m h e h1 h2 h3,e]; rfl
     ·rw [Zux m h e h1 h2 h3,e]; rfl
     ·rw [Zu1 m h e h1 h2 h3,e]; rfl
     ·rw [ZtW m h e h1 h2 h3,e]; rfl
     ·rw [Zun m h e h1 h2 h3,e]; rfl
     ·rw [ZsV m h e h1 h2 h3,e]; rfl
     ·rw [Zui m h e h1 h2 h3,e]; rfl
     ·rw [ZuO m h e h1 h2 h3,e]; rfl
 ·unfold G10
  rw [show kindOk m.kind=false from decide_eq_false hk,Yr]
  by_cases hl:m.kind < 1
  ·rw [if_pos (show (cop .lss m.kind 1)=true by simp only [CQ]; omega)]; rfl
  ·rw [if_neg (show ¬ (cop .lss m.kind 1)=true by simp only [CQ]; omega),if_pos (show (cop .gtr m.kind 17)=true by simp only [CQ]; omega)]; rfl
theorem s56 (m:Msg) (h:m.Fits):g56 m.kind m.view m.frm m.to m.round m.region m.slot m.op.core m.op.op m.op.part m.err m.settled m.req.id.core m.req.id.op m.req.id.part m.req.call.kind m.req.call.slot m.req.call.dest m.req.call.core m.req.call.mask m.req.call.object m.req.call.bits m.req.call.level m.req.call.offset m.req.call.count m.req.call.index m.req.call.addr m.req.region m.req.width m.req.src.id.core m.req.src.id.op m.req.src.id.part (Zb m.req.src.path) m.req.src.cap.kind m.req.src.cap.base m.req.src.cap.bits m.req.src.cap.rights m.req.src.cap.width m.req.src.cap.level m.req.src.cap.device (Zb m.ids) (m.nodes.map Ju) (Za m.cores) (m.moves.map Jw) m.base m.next.number (Za m.next.members) (Za m.next.owners) (m.state.slots.map Zg) (m.state.pending.map ZM) (m.state.marks.map Zk) (m.state.answers.map ZS) (m.state.entries.map Ze) (Zb m.state.commits) m.report.core m.report.view.number (Za m.report.view.members) (Za m.report.view.owners) (m.report.state.slots.map Zg) (m.report.state.pending.map ZM) (m.report.state.marks.map Zk) (m.report.state.answers.map ZS) (m.report.state.entries.map Ze) (Zb m.report.state.commits) m.report.ready m.report.next.number (Za m.report.next.members) (Za m.report.next.owners) (m.report.proposal.slots.map Zg) (m.report.proposal.pending.map ZM) (m.report.proposal.marks.map Zk) (m.report.proposal.answers.map ZS) (m.report.proposal.entries.map Ze) (Zb m.report.proposal.commits)=some (Kk m):=ZxM m h
end Go.Proofs.YtljejgmcgddppaaGreat
end

section
namespace Go.Proofs.YtljejgmcgddppaaGreat
open Go Go.AM
set_option linter.unusedSimpArgs false
set_option linter.unusedVariables false
set_option maxRecDepth 100000
theorem ZiS {α:Type} {F:Nat→LL→Int→Option LL} (l:List α) (f:α→LL) (hn:l.length < 2 ^ 63)
  (step:∀ (k i:Nat) (hi:i < l.length),F (k+1) ((l.take i).flatMap f) (i:Int)=F k ((l.take i).flatMap f++f l[i]) ((i+1:Nat):Int))
  (last:∀ (k:Nat) (acc:LL) (i:Nat),l.length≤i→F (k+1) acc (i:Int)=some acc):F Zx [] 0=some (l.flatMap f):=by
 have key:∀ (j i fuel:Nat),l.length≤i+j→j < fuel→F fuel ((l.take i).flatMap f) (i:Int)=some (l.flatMap f):=by
  intro j
  induction j with
  | zero =>
   intro i fuel h hf
   obtain ⟨q,rfl⟩:∃ q,fuel=q+1:=⟨fuel - 1,by omega⟩
   rw [last q _ i (by omega),List.take_of_length_le (by omega)]
  | succ j ih =>
   intro i fuel h hf
   obtain ⟨q,rfl⟩:∃ q,fuel=q+1:=⟨fuel - 1,by omega⟩
   by_cases hi:i < l.length
   ·have e:(l.take i).flatMap f++f l[i]=(l.take (i+1)).flatMap f:=by
     rw [List.take_add_one,List.getElem?_eq_getElem hi,Option.toList_some,List.flatMap_append,List.flatMap_singleton]
    rw [step q i hi,e]
    exact ih (i+1) q (by omega) (by omega)
   ·rw [last q _ i (by omega),List.take_of_length_le (by omega)]
 exact key l.length 0 Zx (by omega) (by have:=JL hn; omega)
theorem Zcp {α:Type} (f:α→List AV) (l:List α):l.flatMap (fun x=>[f x])=l.map f:=by
 induction l with
 | nil => rfl
 | cons a r ih => rw [List.flatMap_cons, ih, List.map_cons]; rfl
theorem Zmm {α:Type} (f:α→LL) (n:Nat) (h:∀ x,(f x).length≤1):∀ (l:List α),l.length≤n→(l.flatMap f).length≤n
 | [], _ => Nat.zero_le _
 | a :: r, hl => by
  have:=Zmm f (n - 1) h r (by simp at hl; omega)
  have:=h a
  simp only [List.flatMap_cons,List.length_append]
  simp only [List.length_cons] at hl
  omega
theorem Zq {a b:LL} {k:Nat} (h:a.length+b.length≤4096) (hk:k≤10000):Ja a b k:=by
 unfold Ja JJ
 have:(a.length+b.length) * (k+1)≤4096 * 10001:=Nat.mul_le_mul h (by omega)
 omega
theorem s53 (l:List Id) (h:l.length≤64):g53 (Zb l)=some (Zb l):=by
 rw [Zur]
 exact Zf (Zq (by rw [Z0]; simp; omega) (by omega)) _
theorem ZAd (l:List Id) (h:l.length≤64):ZxI (Zb l)=some (Zb l):=by
 rw [ZrX]
 refine ZiO (fun hn=>?_) ?_
 ·rw [if_pos rfl,hn]
 ·rw [if_neg Bool.false_ne_true]
  exact Zf (Zq (by rw [Z0]; simp; omega) (by omega)) _
theorem s30 (n:Y4) (h:n.path.length≤64):g30 n.id.core n.id.op n.id.part (Zb n.path) n.cap.kind n.cap.base n.cap.bits n.cap.rights n.cap.width n.cap.level n.cap.device=some (Zft n):=by
 rw [ZsS,s53 _ h]; rfl
theorem s64 (n:Y4) (h:n.path.length≤64):g64 n.id.core n.id.op n.id.part (Zb n.path) n.cap.kind n.cap.base n.cap.bits n.cap.rights n.cap.width n.cap.level n.cap.device=some (Zft n):=by
 rw [Zs4,ZAd _ h]; rfl
def Zq7 (v:View):List AV:=[I v.number,.slice false 1 (Za v.members),.slice false 1 (Za v.owners)]
def ZrF (r:Report):List AV:=[I r.core]++Zq7 r.view++ZlA r.state++[B r.ready]++Zq7 r.next++ZlA r.proposal
def ZoQ (m:Msg):List AV:=[I m.kind,I m.view,I m.frm,I m.to,I m.round,I m.region,I m.slot,I m.op.core,I m.op.op,I m.op.part,I m.err,B m.settled]++ZM m.req++[.slice false 3 (Zb m.ids),.slice false 11 (m.nodes.map Ju),.slice false 1 (Za m.cores),.slice false 2 (m.moves.map Jw),I m.base]++Zq7 m.next++ZlA m.state++ZrF m.report
theorem Yj {γ:Type} {l:List Msg} {i:Nat} (h:i < l.length) (k:Qt2→Option γ):Zi (l.map ZoQ) (i:Int) hs0 k=k (Znt l[i]):=J6 (f:=ZoQ) (sh:=hs0) (v:=Znt) (fun _=>rfl) h k
theorem s37 (l:List Msg) (hl:l.length < 2 ^ 63) (hf:∀ m∈l,m.Fits):g37 (l.map ZoQ) (l.map ZoQ)=some true:=by
 rw [Zty,if_neg (by simp [cop])]
 have:=ZL (F:=fun k i=>ZkQ k (l.map ZoQ) (l.map ZoQ) i) (n:=l.length) (fin:=some true) (bad:=some false) (fun _=>true) hl 0 (by omega)
  (fun k i _ hi=>by
   show ZkQ (k+1) _ _ _=_
   rw [Zj6,List.length_map,if_pos (ZZ hi)]
   refine (Yj hi _).trans ?_
   refine (Yj hi _).trans ?_
   simp only [Znt,d2,d4,d8,d16]
   have hm:=hf l[i] (List.getElem_mem hi)
   rw [s62 l[i] l[i] hm hm,Option.bind_some,Zll,ZR hi hl]
   rfl)
  (fun k i hi=>by show ZkQ (k+1) _ _ _=_; rw [Zj6,List.length_map,if_neg (ZY hi)])
 refine this.trans ?_
 rw [if_pos (by simp)]
structure W4 (l:List Jq):Prop where
 len:l.length≤70
 path:∀ s∈l,s.node.path.length≤20
end Go.Proofs.YtljejgmcgddppaaGreat
end

section
namespace Go.Proofs.YtljejgmcgddppaaGreat
open Go Go.AM
set_option linter.unusedSimpArgs false
set_option linter.unusedVariables false
set_option maxRecDepth 100000
theorem Yt {α:Type} (f:α→List AV) (g:α→α) (l:List α) (i o:Nat) (c:List AV) (h:∀ x,l[i]? = some x→setCells (f x) o c=f (g x)):Zy (l.map f) i o c=(l.modify i g).map f:=by
 unfold Zy
 refine List.ext_getElem? fun j=>?_
 rw [List.getElem?_modify,List.getElem?_map,List.getElem?_map,List.getElem?_modify]
 cases hj:l[j]? with
 | none => rfl
 | some x =>
  by_cases hij:i=j
  ·subst hij
   simp [h x hj]
  ·simp [hij]
theorem Zmk {α:Type} (l:List α) (i:Nat):l.modify i (fun x=>x)=l:=by
 refine List.ext_getElem? fun j=>?_
 rw [List.getElem?_modify]
 cases l[j]? <;> simp
theorem Zoq {α:Type} (f:α→List AV) (l:List α) (i o:Nat) (c:List AV) (h:∀ x,l[i]? = some x→setCells (f x) o c=f x):Zy (l.map f) i o c=l.map f:=by
 rw [Yt f (fun x=>x) l i o c h,Zmk]
theorem ZtE {i n:Nat} (h:i < n):((i:Int) < (n:Int)):=by omega
theorem s16 (l:List Jq) (h:W4 l):g16 (l.map Zg)=some (l.map Zg):=by
 rw [Ztw]
 have hn:l.length < 2 ^ 63:=by have:=h.len; omega
 refine (ZiS (F:=fun k acc i=>ZkE k (l.map Zg) acc i) l (fun r=>[Zg r]) hn (fun k i hi=>?_) (fun k acc i hi=>?_)).trans (by rw [Zcp])
 ·show ZkE (k+1) _ _ _=_
  rw [Zj5,List.length_map,if_pos (ZZ hi)]
  refine (ZN hi _).trans ?_
  simp only [Yd,d2,d4,d8,d16]
  have hp:=h.path l[i] (List.getElem_mem hi)
  rw [s30 l[i].node (by omega),Option.bind_some]
  refine (ZN hi _).trans ?_
  refine (ZN hi _).trans ?_
  refine (Zf (Zq ?_ (by omega)) _).trans ?_
  ·rw [Zcp]
   have:=h.len
   simp only [List.length_map,List.length_take,List.length_append,List.length_cons,List.length_nil]
   omega
  ·rw [ZR hi hn]
   rfl
 ·show ZkE (k+1) _ _ _=_
  rw [Zj5,List.length_map,if_neg (ZY hi)]
theorem s63 (l:List Jq) (h:W4 l):g63 (l.map Zg)=some (l.map Zg):=by
 rw [Zt0]
 refine ZiO (fun hn=>?_) ?_
 ·rw [if_pos rfl,hn]
 ·rw [if_neg Bool.false_ne_true]
  refine Zf (Zq (by have:=h.len; simp; omega) (by omega)) _
theorem s38 (l:List Jq) (h:W4 l):g38 (l.map Zg)=some (l.map Zg):=by
 rw [ZtM,s63 l h,Option.bind_some,List.length_map]
 have hn:l.length < 2 ^ 63:=by have:=h.len; omega
 have:=ZL (F:=fun k i=>ZhP k (l.map Zg) (l.length:Int) i) (n:=l.length) (fin:=some (l.map Zg)) (bad:=none) (fun _=>true) hn 0 (by omega)
  (fun k i _ hi=>by
   show ZhP (k+1) _ _ _=_
   rw [ZjF,if_pos (ZZ hi),List.length_map]
   have hin:=ZtE hi
   refine (Zf (by omega) _).trans ?_
   refine (Zf hin _).trans ?_
   refine (ZN hi _).trans ?_
   simp only [Yd,d2,d4,d8,d16]
   have hp:=h.path l[i] (List.getElem_mem hi)
   rw [s64 l[i].node (by omega),Option.bind_some]
   refine (Zf (by omega) _).trans ?_
   refine (Zf hin _).trans ?_
   refine (Zf (by omega) _).trans ?_
   refine (Zf hin _).trans ?_
   rw [ZR hi hn]
   refine Eq.trans ?_ (if_pos trivial).symm
   refine congrArg (fun x=>ZhP k x (l.length:Int) ((i+1:Nat):Int)) ?_
   refine Zoq Zg l _ 0 (Ju l[i].node) fun x hx=>?_
   have hx':l[i]=x:=by
    rw [Int.toNat_natCast,List.getElem?_eq_getElem hi] at hx
    exact Option.some.inj hx
   rw [hx']
   rfl)
  (fun k i hi=>by show ZhP (k+1) _ _ _=_; rw [ZjF,if_neg (ZY hi)])
 refine this.trans ?_
 rw [if_pos (by simp)]
def ZcR (s:Jq):Bool:=if (cop .neq s.op 0)=true then true else !((cop .eql s.lock.core 0)&&((cop .eql s.lock.op 0)&&((cop .eql s.lock.part 0)&&true)))
theorem s71 (s:Jq):g71 s.node.id.core s.node.id.op s.node.id.part (Zb s.node.path) s.node.cap.kind s.node.cap.base s.node.cap.bits s.node.cap.rights s.node.cap.width s.node.cap.level s.node.cap.device s.op s.lock.core s.lock.op s.lock.part=some (ZcR s):=by
 rw [Zul,ZcR]
 split <;> rfl
theorem s20 (s:Jq):g20 s.node.id.core s.node.id.op s.node.id.part (Zb s.node.path) s.node.cap.kind s.node.cap.base s.node.cap.bits s.node.cap.rights s.node.cap.width s.node.cap.level s.node.cap.device s.op s.lock.core s.lock.op s.lock.part=some (ZcR s):=by
 rw [Zsz,ZcR]
 split <;> rfl
def ZuC (op:Int) (s:Jq):Jq:={ s with op:=op }
theorem Jp {γ:Type} {l:List Jq} {v:Int} (h0:0≤v) (h:v.toNat < l.length) (k:ShsT Zde→Option γ):Zi (l.map Zg) v Zde k=k (Yd l[v.toNat]):=by
 have e:v=((v.toNat:Nat):Int):=by omega
 have:=ZN h k
 rwa [← e] at this
theorem ZtJ (acc:List Jq) (i:Nat) (op:Int):Zy (acc.map Zg) i 11 [AV.val (.int .i64 op)]=(acc.modify i (ZuC op)).map Zg:=Yt Zg (ZuC op) acc i 11 _ fun _ _=>rfl
end Go.Proofs.YtljejgmcgddppaaGreat
end
