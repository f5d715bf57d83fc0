/- EndO, O11a, O11b, O12a, O12d, O18a, O18b, O18c, O18d, O18e, O24a, ORet, Oa, Ob, Oc, Od, Oe, Of, Og, Oh: texts of the proof, put together. -/
import Derived.Test.YtlgmnddelljbmaaGreatRows
import Derived.Test.YtlgmnddelljbmaaGreatChecked
import Derived.Test.YtlgmnddelljbmaaGreatM4
import Derived.JoinedOf
import Derived.JoinedAt
import Derived.RowKit3
import Derived.KernelRfl
import Derived.Test.YtlgmnddelljbmaaGreatFOi
import Derived.Test.YtlgmnddelljbmaaGreatBOh

section
namespace Go.Proofs.YtlgmnddelljbmaaGreat
open Go Go.AM
set_option maxRecDepth 100000
theorem behind : ∃ ws, behindMainWord (wordsSigns Tryz.prog.initOrder.toList) = "cut".toList :: ws := by
 have h:Tryz.prog.initOrder.toList=_:=String.toList_ofList (l:=_)
 rw [h]
 exact Zc3 (by kernel_rfl) (by kernel_rfl) (by kernel_rfl) (by kernel_rfl) (by kernel_rfl) (by kernel_rfl)
theorem Zkz:Tryz.prog.mayEnter=true:=behind.elim fun _ h=>Go.AM.enters_of h (by kernel_rfl) (by kernel_rfl) (by kernel_rfl)
theorem ZmG:Tryz.prog.liftsFinal=false:=behind.elim fun _ h=>Go.AM.final_of h
theorem Zk6:Tryz.prog.make=some .cut:=behind.elim fun _ h=>Go.AM.make_of h
theorem Zo2:laidOutB Tryz.prog=true:=by kernel_rfl
theorem ZfS:ownKnob Tryz.prog.godebug=none:=by kernel_rfl
theorem ZkK {d:Nat} {cs:List AV} (h:TyR Tryz.prog (d+1) 3 cs):∃ z,cs = [I z]:=by
 simp only [TyR,Tryz.underlying3] at h
 obtain ⟨z,h,_⟩:=h
 exact ⟨z,h⟩
theorem arg_int {x:AV} (h:Zae Tryz.prog 12 3 x):∃ z,x=I z:=by
 simp only [Zae,Tryz.underlying3] at h
 obtain ⟨z,hz⟩:=ZkK h.2
 exact ⟨z,by simpa using hz⟩
def ZmK (z:Int):List AV:=[I z]
def ZL (l:List Int):List (List AV):=l.map ZmK
structure Id where
 core:Int
 op:Int
 part:Int
 deriving DecidableEq
def idc (i:Id):List AV:=[I i.core,I i.op,I i.part]
def Y4 (l:List Id):List (List AV):=l.map idc
theorem Zcr {α β:Type} {f:α→β} {p:α→Prop} : ∀ (xs:List β),(∀ x∈xs,∃ a,x=f a∧p a)→∃ l:List α,xs=l.map f∧∀ a∈l,p a
 | [], _ => ⟨[], rfl, by simp⟩
 | x :: xs, h => by
  obtain ⟨a,h1,h2⟩:=h x (by simp)
  obtain ⟨l,h3,h4⟩:=Zcr xs fun y hy=>h y (by simp [hy])
  refine ⟨a::l,by rw [h1,h3];rfl,fun b hb=>?_⟩
  rcases List.mem_cons.1 hb with rfl | hb
  ·exact h2
  ·exact h4 b hb
theorem ZlE:Tryz.prog.cellsOf 3=1:=by kernel_rfl
theorem Zip {x:AV} (h:Zae Tryz.prog 12 52 x):∃ l,x = .slice false 1 (ZL l)∧l.length≤maxLen:=by
 simp only [Zae,Tryz.underlying52] at h
 have hh:=h.2
 rw [TyR] at hh
 simp only [Tryz.underlying52,ZlE] at hh
 obtain ⟨xs,h1,h2,h3⟩:=hh
 obtain ⟨l,rfl,h5⟩:=Zcr (f:=ZmK) (p:=fun _=>True) xs fun y hy=>by
  have:=h3 y hy
  rw [TyR] at this
  simp only [Tryz.underlying3] at this
  obtain ⟨z,rfl,hz⟩:=this
  exact ⟨z,rfl,trivial⟩
 exact ⟨l,by simpa [ZL] using h1,by simpa using h2⟩
def Zi6:List TypeId:=[3,4,52,22]
theorem ZnN (t:TypeId) (h:Zi6.contains t=true):VR Tryz.prog 12 t=true∧t < Tryz.prog.types.size∧Tryz.prog.readableRec t=true:=by
 have h2:Zi6.all (fun t=>VR Tryz.prog 12 t&&decide (t < Tryz.prog.types.size)&&Tryz.prog.readableRec t)=true:=by kernel_rfl
 rw [List.all_eq_true] at h2
 have:=h2 t (by simpa using h)
 simpa [and_assoc] using this
end Go.Proofs.YtlgmnddelljbmaaGreat
end

section
namespace Go.Proofs.YtlgmnddelljbmaaGreat
open Go Go.AM
set_option linter.unusedSimpArgs false
set_option linter.unusedVariables false
set_option maxRecDepth 100000
def WA (a b:Int):Bool:=decide (6≤b∧b≤40∧0≤a∧a % 2^b.toNat=0∧a+2^b.toNat≤1099511627776)
theorem Zld {b:Int} (h:b≤40):(2:Int)^b.toNat≤1099511627776:=by
 have:=Zji (m:=b.toNat) (n:=40) (by omega)
 have e:(2:Int)^40=1099511627776:=by decide
 omega
theorem ZiW {a:Int} {n:Nat} (h:0≤a):iop .rem .i64 a (2^n)=a % 2^n:=Int.tmod_eq_emod_of_nonneg h
theorem ZlK {b:Int} (h:b≤40):iop .sub .i64 1099511627776 (2^b.toNat)=1099511627776-2^b.toNat:=by
 have:=Zld h
 have:=ZbX b.toNat
 exact Zb5 (by omega) (by omega)
theorem Zkf (a b:Int):Ziz a b=some (WA a b):=by
 have hp:=ZbX b.toNat
 rw [ZiZ]
 by_cases h1:6≤b∧b≤40∧0≤a
 ·obtain ⟨h1,h2,h3⟩:=h1
  have hs:iop .shl .i64 1 b=2^b.toNat:=ZoE (by omega)
  have hr:J6 ((0:Int)≤b)=fun (x:Option Bool)=>x:=funext fun x=>Z7 (by omega) x
  have hn:J6 (((2:Int)^b.toNat)≠0)=fun (x:Option Bool)=>x:=funext fun x=>Z7 (by omega) x
  simp only [hs,hr,hn,ZiW h3,ZlK h2]
  repeat' split
  all_goals (refine congrArg some ?_;rw [VV];simp only [WA,CQ] at *; omega)
 ·have hf:WA a b=false:=by simp only [WA,decide_eq_false_iff_not];omega
  rw [hf]
  repeat' split
  all_goals first | rfl | (exfalso;simp only [CQ] at *; omega)
def ZfC (a b:Int):Int:=if WA a b=true then a+2^b.toNat else 0
theorem ZhQ {a b:Int} (h:WA a b=true):6≤b∧b≤40∧0≤a∧a % 2^b.toNat=0∧a+2^b.toNat≤1099511627776:=by simpa [WA] using h
theorem Zj1 {a b:Int} (h:WA a b=true):iop .add .i64 a (iop .shl .i64 1 b)=ZfC a b:=by
 obtain ⟨h1,h2,h3,h4,h5⟩:=ZhQ h
 have:=ZbX b.toNat
 rw [ZoE (by omega),ZiU (by omega) (by omega),ZfC,if_pos h]
structure Cap where
 kind:Int
 base:Int
 bits:Int
 rights:Int
 width:Int
 level:Int
 device:Bool
theorem ZoP (k b s r w l:Int) (d:Bool):Zks k b s r w l d=some (b,s):=ZjI ..
end Go.Proofs.YtlgmnddelljbmaaGreat
end

section
namespace Go.Proofs.YtlgmnddelljbmaaGreat
open Go Go.AM
set_option linter.unusedSimpArgs false
set_option linter.unusedVariables false
set_option maxRecDepth 100000
end Go.Proofs.YtlgmnddelljbmaaGreat
end

section
namespace Go.Proofs.YtlgmnddelljbmaaGreat
open Go Go.AM
set_option linter.unusedSimpArgs false
set_option linter.unusedVariables false
set_option maxRecDepth 100000
theorem ZjZ (l:List Id):(Y4 l).length=l.length:=by simp [Y4]
structure ZoN where
 id:Id
 path:List Id
 cap:Cap
end Go.Proofs.YtlgmnddelljbmaaGreat
end

section
namespace Go.Proofs.YtlgmnddelljbmaaGreat
open Go Go.AM
set_option linter.unusedSimpArgs false
set_option linter.unusedVariables false
set_option maxRecDepth 100000
end Go.Proofs.YtlgmnddelljbmaaGreat
end

section
namespace Go.Proofs.YtlgmnddelljbmaaGreat
open Go Go.AM
set_option linter.unusedSimpArgs false
set_option linter.unusedVariables false
set_option maxRecDepth 100000
theorem Zlu {n:Nat} (h:n < 2^63):n+1 < KX:=by
 have:(2:Nat)^64≤KX:=by decide
 omega
structure Call where
 kind:Int
 slot:Int
 dest:Int
 core:Int
 mask:Int
 object:Int
 bits:Int
 level:Int
 offset:Int
 count:Int
 index:Int
 addr:Int
abbrev ZkY:List Sh:=[.int .i64,.int .i64,.int .i64,.slice 3,.int .i64,.int .i64,.int .i64,.int .i64,.int .i64,.int .i64,.bool]
def Zoz (n:ZoN):ShsT ZkY:=(n.id.core,n.id.op,n.id.part,Y4 n.path,n.cap.kind,n.cap.base,n.cap.bits,n.cap.rights,n.cap.width,n.cap.level,n.cap.device)
theorem V4 {α γ:Type} {f:α→List AV} {sh:List Sh} {v:α→ShsT sh} (hf:∀ x,Zha sh (f x)=some (v x)) {l:List α} {i:Nat} (h:i < l.length) (k:ShsT sh→Option γ):Z8 (l.map f) (i:Int) sh k=k (v l[i]):=by
 refine Zea k (by omega) (cs:=f l[i]) ?_ (hf _)
 rw [Int.toNat_natCast,List.getElem?_map,List.getElem?_eq_getElem h]
 rfl
theorem Yp {γ:Type} {l:List Int} {i:Nat} (h:i < l.length) (k:Int→Option γ):Z8 (ZL l) (i:Int) [.int .i64] k=k l[i]:=V4 (f:=ZmK) (sh:=[.int .i64]) (v:=fun x=>x) (fun _=>rfl) h k
end Go.Proofs.YtlgmnddelljbmaaGreat
end

section
namespace Go.Proofs.YtlgmnddelljbmaaGreat
open Go Go.AM
set_option linter.unusedSimpArgs false
set_option linter.unusedVariables false
set_option maxRecDepth 100000
end Go.Proofs.YtlgmnddelljbmaaGreat
end

section
namespace Go.Proofs.YtlgmnddelljbmaaGreat
open Go Go.AM
set_option linter.unusedSimpArgs false
set_option linter.unusedVariables false
set_option maxRecDepth 100000
end Go.Proofs.YtlgmnddelljbmaaGreat
end

section
namespace Go.Proofs.YtlgmnddelljbmaaGreat
open Go Go.AM
set_option linter.unusedSimpArgs false
set_option linter.unusedVariables false
set_option maxRecDepth 100000
end Go.Proofs.YtlgmnddelljbmaaGreat
end

section
namespace Go.Proofs.YtlgmnddelljbmaaGreat
open Go Go.AM
set_option linter.unusedSimpArgs false
set_option linter.unusedVariables false
set_option maxRecDepth 100000
end Go.Proofs.YtlgmnddelljbmaaGreat
end

section
namespace Go.Proofs.YtlgmnddelljbmaaGreat
open Go Go.AM
set_option linter.unusedSimpArgs false
set_option linter.unusedVariables false
set_option maxRecDepth 100000
theorem Jd {a b:LL} {k:Nat} (h:a.length+b.length≤4096) (hk:k≤10000):K7 a b k:=by
 unfold K7 ZS
 have:(a.length+b.length)*(k+1)≤4096*10001:=Nat.mul_le_mul h (by omega)
 omega
theorem ZoT (l:List Id) (h:l.length≤64):Zoe (Y4 l)=some (Y4 l):=by
 rw [Zka]
 refine Zi3 (fun hn=>?_) ?_
 ·rw [if_pos rfl,hn]
 ·rw [if_neg Bool.false_ne_true]
  exact Z7 (Jd (by rw [ZjZ];simp;omega) (by omega)) _
theorem s87 (n:ZoN) (h:n.path.length≤64):g87 n.id.core n.id.op n.id.part (Y4 n.path) n.cap.kind n.cap.base n.cap.bits n.cap.rights n.cap.width n.cap.level n.cap.device=some (Zoz n):=by
 rw [Zkx,ZoT _ h];rfl
end Go.Proofs.YtlgmnddelljbmaaGreat
end

section
namespace Go.Proofs.YtlgmnddelljbmaaGreat
open Go Go.AM
set_option linter.unusedSimpArgs false
set_option linter.unusedVariables false
set_option maxRecDepth 100000
def Ret {α:Type} (P:α→Prop) (o:Option α):Prop:=∃ r,o=some r∧P r
theorem Zi {α:Type} {P:α→Prop} {a:α} (h:P a):Ret P (some a):=⟨a,rfl,h⟩
theorem Jc {α β:Type} {P:β→Prop} {Q:α→Prop} {o:Option α} {f:α→Option β} (h:Ret Q o) (k:∀ r,Q r→Ret P (f r)):Ret P (o.bind f):=by
 obtain ⟨r,rfl,hr⟩:=h
 exact k r hr
theorem Zb {α:Type} {P:α→Prop} {c:Prop} {_:Decidable c} {a b:Option α} (h1:c→Ret P a) (h2:¬ c→Ret P b):Ret P (if c then a else b):=by
 split
 ·exact h1 ‹_›
 ·exact h2 ‹_›
theorem ZO {α:Type} {P:α→Prop} {p:Prop} {_:Decidable p} {x:Option α} (h:p) (k:Ret P x):Ret P (J6 p x):=by
 rw [Z7 h];exact k
theorem Zu {α:Type} {P:α→Prop} {a b:Option α} (h:a=b) (k:Ret P b):Ret P a:=h ▸ k
theorem Zih {α:Type} {P Q:α→Prop} {o:Option α} (h:Ret P o) (k:∀ r,P r→Q r):Ret Q o:=by
 obtain ⟨r,e,hr⟩:=h
 exact ⟨r,e,k r hr⟩
theorem Za {α β:Type} {P:β→Prop} {o:Option α} {a:α} {f:α→Option β} (h:o=some a) (k:Ret P (f a)):Ret P (o.bind f):=by
 subst h;exact k
theorem Zh2 {σ γ:Type} {P:γ→Prop} {F:Nat→σ→Int→Option γ} {n:Nat} (J:Nat→σ→Prop) (hn:n < 2^63)
  (step:∀ (k i:Nat) (s:σ),i < n→J i s→(∀ s',J (i+1) s'→Ret P (F k s' ((i+1:Nat):Int)))→Ret P (F (k+1) s (i:Int)))
  (last:∀ (k:Nat) (s:σ),J n s→Ret P (F (k+1) s (n:Int))) (s:σ) (h:J 0 s):Ret P (F KX s 0):=by
 have key:∀ (j i fuel:Nat) (s:σ),i+j=n→j < fuel→J i s→Ret P (F fuel s (i:Int)):=by
  intro j
  induction j with
  | zero =>
   intro i fuel s h hf hj
   obtain ⟨q,rfl⟩:∃ q,fuel=q+1:=⟨fuel-1,by omega⟩
   have:i=n:=by omega
   subst this
   exact last q s hj
  | succ j ih =>
   intro i fuel s h hf hj
   obtain ⟨q,rfl⟩:∃ q,fuel=q+1:=⟨fuel-1,by omega⟩
   exact step q i s (by omega) hj fun s' hs=>ih (i+1) q s' (by omega) (by omega) hs
 exact key n 0 KX s (by omega) (by have:=Zlu hn;omega) h
theorem ZQ {σ γ:Type} {P:γ→Prop} {F:Nat→σ→Int→Option γ} (n:Nat) (J:Nat→σ→Prop) (hn:n < 1000)
  (step:∀ (k i:Nat) (s:σ),i≤n→J i s→(i < n→∀ s',J (i+1) s'→Ret P (F k s' ((i+1:Nat):Int)))→Ret P (F (k+1) s (i:Int))) (s:σ) (h:J 0 s):Ret P (F KX s 0):=by
 refine Zh2 (F:=F) (n:=n) J (by omega) (fun k i s hi hj ih=>step k i s (by omega) hj fun _=>ih) (fun k s hj=>step k n s (Nat.le_refl _) hj fun h=>absurd h (Nat.lt_irrefl _)) s h
theorem Ki {i n:Nat} (h:i≤n) (hn:n < 1000):iop .add .i64 (i:Int) 1=((i+1:Nat):Int):=by
 rw [ZiU (by omega) (by omega)];omega
end Go.Proofs.YtlgmnddelljbmaaGreat
end

section
namespace Go.Proofs.YtlgmnddelljbmaaGreat
open Go Go.AM
set_option linter.unusedSimpArgs false
set_option linter.unusedVariables false
set_option maxRecDepth 100000
structure Q where
 c:Int
 n:Int
 d:Int
 a:Int
def ec (q:Q):List AV:=[I q.c,I q.d,I q.c,I q.n,I 0,.slice false 3 E0,I 1,I q.a,I 12,I 7,I 0,I 0,B false]
def eV (q:Q):ShsT hs19:=(q.c,q.d,q.c,q.n,0,E0,1,q.a,12,7,0,0,false)
def nc (q:Q):List AV:=[I q.c,I q.n,I 0,.slice false 3 E0,I 1,I q.a,I 12,I 7,I 0,I 0,B false]
theorem WK {γ:Type} {l:List Q} {i:Nat} (h:i < l.length) (k:ShsT hs19→Option γ):Z8 (l.map ec) (i:Int) hs19 k=k (eV l[i]):=V4 (fun _=>rfl) h k
theorem Zmg {a b c:Bool} (h:(a&&(b&&(c&&true)))=true):a=true∧b=true∧c=true:=by simpa using h
theorem s84 (es:List Q) (hl:es.length < 1000) (x y z:Int) (hno:∀ e∈es,¬ (e.c=x∧e.n=y∧(0:Int)=z)):g84 (es.map ec) x y z=some (0,false):=by
 have key:Ret (fun r=>r=((0:Int),false)) (g84 (es.map ec) x y z):=by
  rw [Zkt,List.length_map]
  refine ZQ (F:=fun k (_:Unit) i=>ZhX k x y z (es.map ec) (es.length:Int) i) es.length (fun _ _=>True) hl (fun k i _ hi _ next=>?_) () trivial
  refine Zu (ZhY ..) (Zb (fun h=>?_) fun _=>Zi rfl)
  simp only [CQ] at h
  have hi':i < es.length:=by omega
  refine Zu (WK hi' _) (Zb (fun h2=>?_) fun _=>?_)
  ·obtain ⟨h3,h4,h5⟩:=Zmg h2
   simp only [eV,CQ] at h3 h4 h5
   exact (hno _ (List.getElem_mem hi') ⟨h3,h4,h5⟩).elim
  ·rw [Ki hi hl]
   exact next hi' () trivial
 obtain ⟨r,e,rfl⟩:=key
 exact e
theorem s85 (es:List Q) (hl:es.length < 1000) (x y:Int) (hno:∀ e∈es,¬ (e.c=x∧e.d=y)):g85 (es.map ec) x y=some (0,false):=by
 have key:Ret (fun r=>r=((0:Int),false)) (g85 (es.map ec) x y):=by
  rw [ZkN,List.length_map]
  refine ZQ (F:=fun k (_:Unit) i=>ZeD k x y (es.map ec) (es.length:Int) i) es.length (fun _ _=>True) hl (fun k i _ hi _ next=>?_) () trivial
  refine Zu (Zhl ..) (Zb (fun h=>?_) fun _=>Zi rfl)
  simp only [CQ] at h
  have hi':i < es.length:=by omega
  have hnx:Ret (fun r=>r=((0:Int),false)) (ZeD k x y (es.map ec) (es.length:Int) (iop .add .i64 (i:Int) 1)):=by rw [Ki hi hl];exact next hi' () trivial
  refine Zu (WK hi' _) (Zb (fun h2=>Zb (fun h3=>?_) fun _=>hnx) fun _=>hnx)
  simp only [eV,CQ] at h2 h3
  exact (hno _ (List.getElem_mem hi') ⟨h2,h3⟩).elim
 obtain ⟨r,e,rfl⟩:=key
 exact e
theorem Zd0 {l:LL} {i o:Nat} {v:List AV} (h:∀ r,l[i]? = some r→setCells r o v=r):JE l i o v=l:=by
 unfold JE
 apply List.ext_getElem?
 intro j
 rw [List.getElem?_modify]
 by_cases hij:i=j
 ·subst hij
  cases hx:l[i]? with
  | none => rfl
  | some r => simp [h r hx]
 ·cases hx:l[j]? with
  | none => rfl
  | some r => simp [hij]
theorem Zl3 (q:Q):g87 q.c q.n 0 E0 1 q.a 12 7 0 0 false=some (q.c,q.n,0,E0,1,q.a,12,7,0,0,false):=s87 ⟨⟨q.c,q.n,0⟩,[],⟨1,q.a,12,7,0,0,false⟩⟩ (Nat.zero_le _)
theorem Zps (x:LL) (h:x.length < 1000):Zoi x=some x:=by
 rw [Zi8]
 have hr:K7 E0 x 120:=Jd (by simp;omega) (by decide)
 cases x with
 | nil => simp [Zfe, J6, hr]
 | cons a x => simp [Zfe, J6, hr]
theorem s51 (es:List Q) (hl:es.length < 1000):g51 (es.map ec)=some (es.map ec):=by
 have key:Ret (fun r=>r=es.map ec) (g51 (es.map ec)):=by
  rw [Zkq]
  refine Za (Zps _ (by simpa using hl)) ?_
  rw [List.length_map]
  refine ZQ (F:=fun k (s:LL) i=>ZhK k s (es.length:Int) i) es.length (fun _ s=>s=es.map ec) hl (fun k i s hi hs next=>?_) (es.map ec) rfl
  subst hs
  refine Zu (Zhy ..) (Zb (fun h=>?_) fun _=>Zi rfl)
  simp only [CQ] at h
  have hi':i < es.length:=by omega
  have r1:(0:Int)≤(i:Int):=Int.natCast_nonneg i
  have r2:(i:Int) < ((es.map ec).length:Int):=by rw [List.length_map];omega
  refine ZO r1 (ZO r2 (Zu (WK hi' _) (Za (Zl3 es[i]) (ZO r1 (ZO r2 (ZO r1 (ZO r2 ?_)))))))
  rw [Ki hi hl]
  refine next hi' _ (Zd0 fun r hr=>?_)
  rw [Int.toNat_natCast,List.getElem?_map,List.getElem?_eq_getElem hi'] at hr
  simp only [Option.map_some,Option.some.injEq] at hr
  subst hr
  rfl
 obtain ⟨r,e,rfl⟩:=key
 exact e
theorem Zhg (a b:Int):Ret (fun _=>True) (Zlk a b):=by
 rw [ZjM]
 refine Za (ZfM a) (Za (ZfM b) ?_)
 repeat' (first | exact Zi trivial | refine Zb (fun _=>?_) fun _=>?_)
theorem ZlP (l:List Int) (hl:l.length < 1000):Ret (fun _=>True) (ZmE (ZL l)):=by
 have e:(ZL l).length=l.length:=by simp [ZL]
 rw [ZjH,e]
 refine ZQ (F:=fun k (_:Unit) i=>Zeh k 0 (ZL l) (l.length:Int) i) l.length (fun _ _=>True) hl (fun k i _ hi _ next=>?_) () trivial
 refine Zu (Zg8 ..) (Zb (fun h=>?_) fun _=>Zi trivial)
 simp only [CQ] at h
 have hi':i < l.length:=by omega
 refine Zu (Yp hi' _) (Zb (fun _=>Zi trivial) fun _=>?_)
 rw [Ki hi hl]
 exact next hi' () trivial
theorem Zje (a b c d e f:Int):Ret (fun _=>True) (Zm7 a b c d e f):=by
 rw [Zj7]
 refine Jc (Zhg _ _) fun x _=>Jc (Zhg _ _) fun y _=>Jc (Zhg _ _) fun z _=>?_
 exact Jc (ZlP [x,y,z] (by simp)) fun _ _=>Zi trivial
theorem ZhM (a b c d e f:Int):Ret (fun _=>True) (g86 a b c d e f):=by
 rw [Zkl]
 refine Jc (Q:=fun _=>True) ?_ fun _ _=>Zi trivial
 exact Zje _ _ _ _ _ _
theorem s38 (es:List Q) (hl:es.length < 900) (q:Q) (h1:∀ e∈es,¬ (e.c=q.c∧e.n=q.n)) (h2:∀ e∈es,¬ (e.c=q.c∧e.d=q.d)) :
  ∃ j≤es.length,g38 (es.map ec) q.c q.d q.c q.n 0 E0 1 q.a 12 7 0 0 false=some ((es.take j++q::es.drop j).map ec,true):=by
 have ins:∀ (j:Nat),j≤es.length→g88 (es.map ec) (j:Int) (E0++[ec q])=some ((es.take j++q::es.drop j).map ec):=by
  intro j hj
  rw [ZlG]
  unfold Zn7
  rw [Z7 (Int.natCast_nonneg j),Z7 (by rw [List.length_map];omega),Z7 (by simp),Z7 (Jd (by simp;omega) (by decide))]
  simp [List.map_take,List.map_drop]
 have key:Ret (fun r=>∃ j≤es.length,r=((es.take j++q::es.drop j).map ec,true)) (g38 (es.map ec) q.c q.d q.c q.n 0 E0 1 q.a 12 7 0 0 false):=by
  rw [Zkm]
  refine Za (s84 es (by omega) _ _ _ fun e he h=>h1 e he ⟨h.1,h.2.1⟩) (Za (s85 es (by omega) _ _ h2) (Zb (fun h=>by cases h) fun _=>Zb (fun h=>by cases h) fun _=>?_))
  rw [List.length_map]
  refine ZQ (F:=fun k (_:Unit) i=>Zhm k (es.map ec) q.c q.d q.c q.n 0 E0 1 q.a 12 7 0 0 false (es.length:Int) (es.map ec) (es.length:Int) i) es.length (fun _ _=>True) (by omega) (fun k i _ hi _ next=>?_) () trivial
  refine Zu (Zhr ..) (Zb (fun h=>?_) fun _=>?_)
  ·simp only [CQ] at h
   have hi':i < es.length:=by omega
   refine Zu (WK hi' _) (Jc (Q:=fun _=>True) ?_ fun r _=>Zb (fun _=>?_) fun _=>?_)
   ·exact ZhM _ _ _ _ _ _
   ·exact Za (s51 es (by omega)) (Za (Zl3 q) (Za (ins i (by omega)) (Zi ⟨i,by omega,rfl⟩)))
   ·rw [Ki hi (by omega)]
    exact next hi' () trivial
  ·exact Za (s51 es (by omega)) (Za (Zl3 q) (Za (ins es.length (Nat.le_refl _)) (Zi ⟨es.length,Nat.le_refl _,rfl⟩)))
 obtain ⟨r,e,j,hj,rfl⟩:=key
 exact ⟨j,hj,e⟩
end Go.Proofs.YtlgmnddelljbmaaGreat
end

section
namespace Go.Proofs.YtlgmnddelljbmaaGreat
open Go Go.AM
set_option linter.unusedSimpArgs false
set_option linter.unusedVariables false
set_option maxRecDepth 100000
def Al (a:Int):Prop:=∃ k:Int,0≤k∧k < 16∧a=k*4096
theorem Zfm {a:Int} (h:Al a):WA a 12=true:=by
 obtain ⟨k,h1,h2,rfl⟩:=h
 have e:(2:Int)^(12:Int).toNat=4096:=by decide
 simp only [WA,e,decide_eq_true_eq]
 omega
theorem Zjj {a:Int} (h:Al a):ZjJ a 12=some (a+4096):=by
 have hr:=Zfm h
 have e:(2:Int)^(12:Int).toNat=4096:=by decide
 rw [ZjE,Zkf,hr]
 simp only [Option.bind_some,Bool.not_true,Bool.false_eq_true,if_false]
 rw [Z7 (by decide),Zj1 hr,ZfC,if_pos hr,e]
theorem Zoa {a b:Int} (ha:Al a) (hb:Al b):Zmt a 12 b 12=some (decide (a=b)):=by
 have key:Ret (fun r=>r=decide (a=b)) (Zmt a 12 b 12):=by
  rw [Zj2]
  refine Za (Zkf a 12) (Zb (fun _=>Za (Zkf b 12) (Zb (fun _=>Za (Zjj hb) (Zb (fun h1=>Za (Zjj ha) (Zi ?_)) fun h1=>Zi ?_)) fun h=>absurd (Zfm hb) h)) fun h=>absurd (Zfm ha) h)
  ·obtain ⟨k,h1',h2,rfl⟩:=ha
   obtain ⟨j,h3,h4,rfl⟩:=hb
   rw [VV]
   simp only [CQ,decide_eq_true_eq] at *
   omega
  ·obtain ⟨k,h1',h2,rfl⟩:=ha
   obtain ⟨j,h3,h4,rfl⟩:=hb
   rw [VV]
   simp only [CQ,decide_eq_true_eq] at *
   first | omega | (constructor<;>intro h<;>first | cases h | (exfalso;omega))
 obtain ⟨r,e,rfl⟩:=key
 exact e
theorem Zng {a:Int} (ha:Al a):Zkw 0 16 a 12=some true:=by
 have h0:WA 0 16=true:=by kernel_rfl
 have e0:ZjJ 0 16=some 65536:=by kernel_rfl
 have key:Ret (fun r=>r=true) (Zkw 0 16 a 12):=by
  rw [ZiY]
  obtain ⟨k,h1,h2,e⟩:=id ha
  refine Za (Zkf 0 16) (Zb (fun _=>Za (Zkf a 12) (Zb (fun _=>Zb (fun _=>Za (Zjj ha) (Za e0 (Zi ?_))) fun h=>?_) fun h=>absurd (Zfm ha) h)) fun h=>absurd h0 h)
  ·simp only [CQ];omega
  ·simp only [CQ] at h;omega
 obtain ⟨r,e,rfl⟩:=key
 exact e
def Ziq (a:Int):List AV:=[I 1,I a,I 12,I 7,I 0,I 0,B false]
theorem Zh3 {γ:Type} {l:List Int} {i:Nat} (h:i < l.length) (k:ShsT hs22→Option γ):Z8 (l.map Ziq) (i:Int) hs22 k=k (1,l[i],12,7,0,0,false):=V4 (f:=Ziq) (sh:=hs22) (v:=fun a=>(1,a,12,7,0,0,false)) (fun _=>rfl) h k
theorem Zo3 (es:List Q) (hl:es.length < 900) (hA:∀ e∈es,Al e.a) (hn:∀ e∈es,1≤e.n) (a:Int) (ha:Al a):Zmp (es.map ec) 0 0 0 ([a].map Ziq)=some (es.any fun e=>decide (e.a=a)):=by
 have key:Ret (fun r=>r=es.any fun e=>decide (e.a=a)) (Zmp (es.map ec) 0 0 0 ([a].map Ziq)):=by
  rw [Zjt]
  refine Za (s84 es (by omega) 0 0 0 fun e he h=>?_) ?_
  ·have:=hn e he;omega
  rw [List.length_map]
  refine ZQ (F:=fun k (_:Unit) i=>Zd9 k (es.map ec) ([a].map Ziq) 0 false (es.map ec) (es.length:Int) i) es.length (fun i _=>∀ j (h:j < es.length),j < i→es[j].a≠a) (by omega) (fun k i _ hi hJ next=>?_) () (fun j _ h=>absurd h (Nat.not_lt_zero j))
  refine Zu (ZgB ..) (Zb (fun h=>?_) fun h=>Zi ?_)
  ·simp only [CQ] at h
   have hi':i < es.length:=by omega
   have hmem:=List.getElem_mem hi'
   refine Zu (WK hi' _) (Za (ZoP ..) (Zb (fun h=>by cases h) fun _=>?_))
   refine ZQ (F:=fun q (_:Unit) j=>Zaq (ZfA.lp [2] 0 r0 k) q (es.map ec) ([a].map Ziq) 0 false es[i].a 12 (es.map ec) (es.length:Int) (i:Int) ([a].map Ziq) (([a].map Ziq).length:Int) j) 1 (fun j _=>1≤j→es[i].a≠a) (by omega) (fun q j _ hj hJ2 next2=>?_) () (fun h=>by omega)
   refine Zu (ZgM ..) (Zb (fun h=>?_) fun h=>?_)
   ·have hj0:j=0:=by simp only [CQ,List.length_map,List.length_singleton] at h;omega
    subst hj0
    refine Zu (Zh3 (l:=[a]) (i:=0) (by simp) _) (Za (ZoP ..) (Za (Zoa (hA _ hmem) ha) (Zb (fun h3=>Zi ?_) fun h3=>?_)))
    ·have h4:es[i].a=a:=by simpa using h3
     symm
     rw [List.any_eq_true]
     exact ⟨_,hmem,by simpa using h4⟩
    ·exact next2 (by omega) () fun _ h4=>h3 (by simpa using h4)
   ·have hj1:1≤j:=by simp only [CQ,List.length_map,List.length_singleton] at h;omega
    rw [Ki hi (by omega)]
    refine next hi' () fun m hm hmi=>?_
    by_cases hmi':m=i
    ·subst hmi';exact hJ2 hj1
    ·exact hJ m hm (by omega)
  ·simp only [CQ] at h
   symm
   rw [List.any_eq_false]
   intro e he
   obtain ⟨m,hm,rfl⟩:=List.mem_iff_getElem.1 he
   simpa using hJ m hm (by omega)
 obtain ⟨r,e,rfl⟩:=key
 exact e
def qc (q:Q):List AV:=[I q.c,I q.n,I 0,I 1,I 0,I q.d,I 0,I 0,I 0,I 12,I 0,I q.a,I 0,I 0,I 0,I 0,I 32,I 0,I 0,I 0,.slice false 3 E0,I 0,I 0,I 0,I 0,I 0,I 0,B false]
def oT (es qs:LL) (q:Q) (p:Int) (w:LL):Qt14:=(0,0,16,false,es,qs,q.c,q.n,0,1,0,q.d,0,0,0,12,0,q.a,0,0,0,0,32,0,0,0,E0,0,0,0,0,0,0,false,p,w,E0,E0)
def Vu (q:Q) (err:Int) (nodes:LL):List AV:=[I 2,I 0,I 0,I q.c,I 0,I 0,I 0,I q.c,I q.n,I 0,I err,B false]++List.replicate 20 (I 0)++[.slice false 3 E0]++List.replicate 6 (I 0)++[B false,.slice false 3 E0,.slice false 11 nodes,.slice false 1 E0,.slice false 2 E0,I 0,I 0,.slice false 1 E0,.slice false 1 E0,.slice false 15 E0,.slice false 28 E0,.slice false 4 E0,.slice false 2 E0,.slice false 13 E0,.slice false 3 E0,I 0,I 0,.slice false 1 E0,.slice false 1 E0,.slice false 15 E0,.slice false 28 E0,.slice false 4 E0,.slice false 2 E0,.slice false 13 E0,.slice false 3 E0,B false,I 0,.slice false 1 E0,.slice false 1 E0,.slice false 15 E0,.slice false 28 E0,.slice false 4 E0,.slice false 2 E0,.slice false 13 E0,.slice false 3 E0]
theorem s47 (es qs:LL) (q:Q) (p:Int) (w:LL) (err:Int) (nodes:LL):g47 0 0 16 false es qs q.c q.n 0 1 0 q.d 0 0 0 12 0 q.a 0 0 0 0 32 0 0 0 E0 0 0 0 0 0 0 false p w E0 E0 err false nodes=some ([Vu q err nodes],oT es qs q 5 E0):=by
 rw [Zk5,Zjz]
 rfl
theorem ZoV (es:List Q) (hl:es.length < 900) (qs:LL) (q0 q:Q) (p:Int) (w:LL) (h1:∀ e∈es,¬ (e.c=q.c∧e.n=q.n)) (h2:∀ e∈es,¬ (e.c=q.c∧e.d=q.d)) :
  ∃ j≤es.length,ZlT 0 0 16 false (es.map ec) qs q0.c q0.n 0 1 0 q0.d 0 0 0 12 0 q0.a 0 0 0 0 32 0 0 0 E0 0 0 0 0 0 0 false p w E0 E0 ([q].map ec)=some (true,oT ((es.take j++q::es.drop j).map ec) qs q0 p w):=by
 obtain ⟨j,hj,e⟩:=s38 es hl q h1 h2
 refine ⟨j,hj,?_⟩
 have key:Ret (fun r=>r=(true,oT ((es.take j++q::es.drop j).map ec) qs q0 p w)) (ZlT 0 0 16 false (es.map ec) qs q0.c q0.n 0 1 0 q0.d 0 0 0 12 0 q0.a 0 0 0 0 32 0 0 0 E0 0 0 0 0 0 0 false p w E0 E0 ([q].map ec)):=by
  rw [ZjC]
  refine ZQ (F:=fun k (s:LL) i=>Zel k 0 0 16 false (es.map ec) qs q0.c q0.n 0 1 0 q0.d 0 0 0 12 0 q0.a 0 0 0 0 32 0 0 0 E0 0 0 0 0 0 0 false p w E0 E0 s ([q].map ec) (([q].map ec).length:Int) i) 1 (fun i s=>(i=0→s=es.map ec)∧(1≤i→s=(es.take j++q::es.drop j).map ec)) (by omega) (fun k i s hi hJ next=>?_) (es.map ec) ⟨fun _=>rfl,fun h=>by omega⟩
  refine Zu (Zgq ..) (Zb (fun h=>?_) fun h=>?_)
  ·have hi0:i=0:=by simp only [CQ,List.length_map,List.length_singleton] at h;omega
   subst hi0
   rw [hJ.1 rfl]
   refine Zu (WK (l:=[q]) (i:=0) (by simp) _) (Za e (Zb (fun h=>by cases h) fun _=>?_))
   exact next (by omega) _ ⟨fun h=>by omega,fun _=>rfl⟩
  ·have hi1:1≤i:=by simp only [CQ,List.length_map,List.length_singleton] at h;omega
   rw [hJ.2 hi1]
   exact Zi rfl
 obtain ⟨r,e,rfl⟩:=key
 exact e
end Go.Proofs.YtlgmnddelljbmaaGreat
end

section
namespace Go.Proofs.YtlgmnddelljbmaaGreat
open Go Go.AM
set_option linter.unusedSimpArgs false
set_option linter.unusedVariables false
set_option maxRecDepth 100000
structure EOk (es:List Q):Prop where
 len:es.length < 900
 al:∀ e∈es,Al e.a
 n1:∀ e∈es,1≤e.n
def Zff (es:List Q) (a:Int):Bool:=es.any fun e=>decide (e.a=a)
theorem Zo0 (es:List Q) (hE:EOk es) (qs:LL) (q:Q) (p:Int) (w:LL) (hd:0≤q.d∧q.d < 64) (ha:Al q.a) :
  Zma 0 0 16 false (es.map ec) qs q.c q.n 0 1 0 q.d 0 0 0 12 0 q.a 0 0 0 0 32 0 0 0 E0 0 0 0 0 0 0 false p w E0 E0=some (if Zff es q.a=true then (E0,7,oT (es.map ec) qs q p w) else ([ec q],0,oT (es.map ec) qs q p w)):=by
 have key:Ret (fun r=>r=if Zff es q.a=true then (E0,(7:Int),oT (es.map ec) qs q p w) else ([ec q],0,oT (es.map ec) qs q p w)) (Zma 0 0 16 false (es.map ec) qs q.c q.n 0 1 0 q.d 0 0 0 12 0 q.a 0 0 0 0 32 0 0 0 E0 0 0 0 0 0 0 false p w E0 E0):=by
  rw [ZjK]
  refine Zb (fun h=>?_) fun _=>Zb (fun h=>?_) fun _=>Za (Zkf _ _) (Zb (fun h=>?_) fun _=>Za (Zng ha) (Zb (fun h=>by cases h) fun _=>Za (Zo3 es hE.len hE.al hE.n1 q.a ha) (Zb (fun h=>Zi ?_) fun h=>Zi ?_)))
  ·simp only [CQ] at h;omega
  ·simp only [CQ] at h;omega
  ·rw [Zfm ha] at h;cases h
  ·rw [if_pos (show Zff es q.a=true from h)];rfl
  ·rw [if_neg (show ¬ Zff es q.a=true from h)];rfl
 obtain ⟨r,e,rfl⟩:=key
 exact e
theorem ZnU (es:List Q) (qs:LL) (q:Q) (p:Int) (w:LL):ZiR 0 0 16 false (es.map ec) qs q.c q.n 0 1 0 q.d 0 0 0 12 0 q.a 0 0 0 0 32 0 0 0 E0 0 0 0 0 0 0 false p w E0 E0 E0 7=some ([Vu q 7 E0],oT (es.map ec) qs q 5 E0):=by
 have key:Ret (fun r=>r=([Vu q 7 E0],oT (es.map ec) qs q 5 E0)) (ZiR 0 0 16 false (es.map ec) qs q.c q.n 0 1 0 q.d 0 0 0 12 0 q.a 0 0 0 0 32 0 0 0 E0 0 0 0 0 0 0 false p w E0 E0 E0 7):=by
  rw [ZfH]
  refine Zb (fun h=>?_) fun _=>Zb (fun _=>Za (s47 ..) (Zi rfl)) fun h=>?_
  ·simp only [CQ] at h;omega
  ·simp only [CQ] at h;omega
 obtain ⟨r,e,rfl⟩:=key
 exact e
theorem ZmO (es:List Q) (hE:EOk es) (qs:LL) (q:Q) (p:Int) (w:LL) (h1:∀ e∈es,¬ (e.c=q.c∧e.n=q.n)) (h2:∀ e∈es,¬ (e.c=q.c∧e.d=q.d)) :
  ∃ j≤es.length,ZiR 0 0 16 false (es.map ec) qs q.c q.n 0 1 0 q.d 0 0 0 12 0 q.a 0 0 0 0 32 0 0 0 E0 0 0 0 0 0 0 false p w E0 E0 [ec q] 0=some ([Vu q 0 [nc q]],oT ((es.take j++q::es.drop j).map ec) qs q 5 E0):=by
 obtain ⟨j,hj,e⟩:=ZoV es hE.len qs q q p w h1 h2
 refine ⟨j,hj,?_⟩
 have key:Ret (fun r=>r=([Vu q 0 [nc q]],oT ((es.take j++q::es.drop j).map ec) qs q 5 E0)) (ZiR 0 0 16 false (es.map ec) qs q.c q.n 0 1 0 q.d 0 0 0 12 0 q.a 0 0 0 0 32 0 0 0 E0 0 0 0 0 0 0 false p w E0 E0 [ec q] 0):=by
  rw [ZfH]
  refine Zb (fun _=>Za e (Zb (fun h=>by cases h) fun _=>Zb (fun h=>?_) fun _=>?_)) fun h=>?_
  ·simp only [CQ] at h;exact (h rfl).elim
  ·refine ZQ (F:=fun k (s:LL) i=>Za4 k 0 0 16 false ((es.take j++q::es.drop j).map ec) qs q.c q.n 0 1 0 q.d 0 0 0 12 0 q.a 0 0 0 0 32 0 0 0 E0 0 0 0 0 0 0 false p w E0 E0 s ([q].map ec) (([q].map ec).length:Int) i) 1 (fun i s=>(i=0→s = [])∧(1≤i→s = [nc q])) (by omega) (fun k i s hi hJ next=>?_) E0 ⟨fun _=>rfl,fun h=>by omega⟩
   refine Zu (ZgT ..) (Zb (fun h=>?_) fun h=>?_)
   ·have hi0:i=0:=by simp only [CQ,List.length_map,List.length_singleton] at h;omega
    subst hi0
    rw [hJ.1 rfl]
    refine Zu (WK (l:=[q]) (i:=0) (by simp) _) (Za (Zl3 q) (ZO (Jd (by simp) (by decide)) ?_))
    exact next (by omega) _ ⟨fun h=>by omega,fun _=>rfl⟩
   ·have hi1:1≤i:=by simp only [CQ,List.length_map,List.length_singleton] at h;omega
    rw [hJ.2 hi1]
    exact Za (s47 ..) (Zi rfl)
  ·exact (h (by simp only [CQ])).elim
 obtain ⟨r,e,rfl⟩:=key
 exact e
def Zej (es:List Q) (qs:LL) (q:Q) (r:Qt13):Prop:=
 (Zff es q.a=true∧r=([Vu q 7 E0],oT (es.map ec) qs q 5 E0))∨
  (Zff es q.a=false∧∃ j≤es.length,r=([Vu q 0 [nc q]],oT ((es.take j++q::es.drop j).map ec) qs q 5 E0))
theorem s95 (es:List Q) (hE:EOk es) (qs:LL) (q:Q) (p:Int) (w:LL) (hd:0≤q.d∧q.d < 64) (ha:Al q.a) (h1:∀ e∈es,¬ (e.c=q.c∧e.n=q.n)) (h2:∀ e∈es,¬ (e.c=q.c∧e.d=q.d)) :
  Ret (Zej es qs q) (g95 0 0 16 false (es.map ec) qs q.c q.n 0 1 0 q.d 0 0 0 12 0 q.a 0 0 0 0 32 0 0 0 E0 0 0 0 0 0 0 false p w E0 E0):=by
 rw [ZkD]
 refine Zb (fun _=>Za (Zo0 es hE qs q p w hd ha) ?_) fun h=>?_
 ·cases hc:Zff es q.a with
  | true =>
   simp only [if_true]
   exact Za (ZnU es qs q p w) (Zi (.inl ⟨hc,rfl⟩))
  | false =>
   simp only [Bool.false_eq_true,if_false]
   obtain ⟨j,hj,e⟩:=ZmO es hE qs q p w h1 h2
   exact Za e (Zi (.inr ⟨hc,j,hj,rfl⟩))
 ·exact (h (by simp only [CQ])).elim
def qV (q:Q):ShsT hs8:=(q.c,q.n,0,1,0,q.d,0,0,0,12,0,q.a,0,0,0,0,32,0,0,0,E0,0,0,0,0,0,0,false)
theorem Zd7 {γ:Type} {l:List Q} {i:Nat} (h:i < l.length) (k:ShsT hs8→Option γ):Z8 (l.map qc) (i:Int) hs8 k=k (qV l[i]):=V4 (fun _=>rfl) h k
theorem Zpq (es qs:LL) (q:Q) (w:LL):g44 0 0 16 false es qs q.c q.n 0 1 0 q.d 0 0 0 12 0 q.a 0 0 0 0 32 0 0 0 E0 0 0 0 0 0 0 false 5 w E0 E0=some (E0,oT es qs q 5 w):=by
 have key:Ret (fun r=>r=(E0,oT es qs q 5 w)) (g44 0 0 16 false es qs q.c q.n 0 1 0 q.d 0 0 0 12 0 q.a 0 0 0 0 32 0 0 0 E0 0 0 0 0 0 0 false 5 w E0 E0):=by
  rw [Zg4]
  refine Zb (fun _=>Zi rfl) fun h=>?_
  simp only [CQ] at h;omega
 obtain ⟨r,e,rfl⟩:=key
 exact e
def zT (es qs:LL):Qt14:=(0,0,16,false,es,qs,0,0,0,0,0,0,0,0,0,0,0,0,0,0,0,0,0,0,0,0,E0,0,0,0,0,0,0,false,0,E0,E0,E0)
theorem Zpb (es:LL):g44 0 0 16 false es E0 0 0 0 0 0 0 0 0 0 0 0 0 0 0 0 0 0 0 0 0 E0 0 0 0 0 0 0 false 0 E0 E0 E0=some (E0,zT es E0):=by
 have key:Ret (fun r=>r=(E0,zT es E0)) (g44 0 0 16 false es E0 0 0 0 0 0 0 0 0 0 0 0 0 0 0 0 0 0 0 0 0 E0 0 0 0 0 0 0 false 0 E0 E0 E0):=by
  rw [Zg4]
  refine Zb (fun h=>?_) fun _=>Zb (fun _=>Zi rfl) fun h=>?_
  ·simp only [CQ] at h;exact (h rfl).elim
  ·simp only [CQ,List.length_nil] at h;exact (h rfl).elim
 obtain ⟨r,e,rfl⟩:=key
 exact e
theorem ZoL (es:List Q) (hE:EOk es) (q:Q) (qs:List Q) (hd:0≤q.d∧q.d < 64) (ha:Al q.a) (h1:∀ e∈es,¬ (e.c=q.c∧e.n=q.n)) (h2:∀ e∈es,¬ (e.c=q.c∧e.d=q.d)) :
  Ret (Zej es (qs.map qc) q) (g44 0 0 16 false (es.map ec) ((q::qs).map qc) 0 0 0 0 0 0 0 0 0 0 0 0 0 0 0 0 0 0 0 0 E0 0 0 0 0 0 0 false 0 E0 E0 E0):=by
 rw [Zg4]
 refine Zb (fun h=>?_) fun _=>Zb (fun h=>?_) fun _=>?_
 ·simp only [CQ] at h;exact (h rfl).elim
 ·simp only [CQ,List.length_map,List.length_cons] at h;omega
 ·refine ZO (Int.le_refl _) (ZO (by simp only [List.length_map,List.length_cons];omega) (Zu (Zd7 (l:=q::qs) (i:=0) (by simp) _) ?_))
  have hdel:g94 ((q::qs).map qc) 0 1=some (qs.map qc):=by
   rw [ZlL]
   unfold Zmz
   rw [Z7 (Int.le_refl _),Z7 (by decide),Z7 (by simp only [List.length_map,List.length_cons];omega)]
   rfl
  refine Za hdel (Jc (s95 es hE (qs.map qc) q 0 E0 hd ha h1 h2) fun r hr=>?_)
  rcases hr with ⟨hc,rfl⟩ | ⟨hc,j,hj,rfl⟩
  ·exact Zi (.inl ⟨hc,rfl⟩)
  ·exact Zi (.inr ⟨hc,j,hj,rfl⟩)
end Go.Proofs.YtlgmnddelljbmaaGreat
end

section
namespace Go.Proofs.YtlgmnddelljbmaaGreat
open Go Go.AM
set_option linter.unusedSimpArgs false
set_option linter.unusedVariables false
set_option maxRecDepth 100000
structure QOk (q:Q):Prop where
 c:0≤q.c∧q.c < 4
 n:1≤q.n∧q.n < 1000
 d:0≤q.d∧q.d < 64
 a:Al q.a
theorem ZlC:g92 0 0 0 E0 0 0 0 0 0 0 false 0 0 0 E0 0 0 0 0 0 0 false=some true:=by kernel_rfl
theorem ZkU (c n:Int) (hc:0≤c∧c < 4) (hn:1≤n∧n < 1000):Zmr c n 0=some true:=by
 have key:Ret (fun r=>r=true) (Zmr c n 0):=by
  rw [Zjk]
  repeat' (first | (refine Zi ?_;simp only [CQ];omega) | refine Zb (fun _=>?_) fun h=>?_)
  all_goals (exfalso;simp only [CQ] at *; omega)
 obtain ⟨r,e,rfl⟩:=key
 exact e
theorem ZoQ (q:Q) (h:QOk q):g42 q.c q.n 0 1 0 q.d 0 0 0 12 0 q.a 0 0 0 0 32 0 0 0 E0 0 0 0 0 0 0 false=some true:=by
 have e90:g90 q.c q.n 0=some true:=by rw [ZiD,ZkU _ _ h.c h.n];rfl
 have e91:g91 0=some true:=by kernel_rfl
 have key:Ret (fun r=>r=true) (g42 q.c q.n 0 1 0 q.d 0 0 0 12 0 q.a 0 0 0 0 32 0 0 0 E0 0 0 0 0 0 0 false):=by
  rw [ZkI]
  refine Za e90 (Zb (fun h=>by cases h) fun _=>Zb (fun h=>?_) fun _=>Zb (fun h=>?_) fun _=>Za e91 (Zb (fun h=>by cases h) fun _=>Zb (fun h=>?_) fun _=>Zb (fun _=>Za ZlC (Zi rfl)) fun h=>?_))
  ·simp only [CQ] at h;omega
  ·simp only [CQ] at h;omega
  ·exfalso;simp only [CQ] at h;exact h rfl
  ·exact (h (by simp only [CQ])).elim
 obtain ⟨r,e,rfl⟩:=key
 exact e
def rT (q:Q):Qt17:=(q.c,q.n,0,1,0,q.d,0,0,0,12,0,q.a,0,0,0,0,32,0,0,0,E0,0,0,0,0,0,0,false)
theorem ZnE (q:Q):g43 q.c q.n 0 1 0 q.d 0 0 0 12 0 q.a 0 0 0 0 32 0 0 0 E0 0 0 0 0 0 0 false=some (rT q):=by
 have h:=s87 ⟨⟨0,0,0⟩,[],⟨0,0,0,0,0,0,false⟩⟩ (Nat.zero_le _)
 rw [ZiA]
 show ((g87 0 0 0 (Y4 []) 0 0 0 0 0 0 false).bind _)=_
 rw [h]
 rfl
theorem Zpi (es:LL) (qs:List Q) (hl:qs.length < 900) (q:Q) (hno:∀ e∈qs,¬ (e.c=q.c∧e.n=q.n)):Zat 0 0 16 false es (qs.map qc) 0 0 0 0 0 0 0 0 0 0 0 0 0 0 0 0 0 0 0 0 E0 0 0 0 0 0 0 false 0 E0 E0 E0 q.c q.n 0 1 0 q.d 0 0 0 12 0 q.a 0 0 0 0 32 0 0 0 E0 0 0 0 0 0 0 false=some (false,0,0,16,false,es,(qs.map qc),0,0,0,0,0,0,0,0,0,0,0,0,0,0,0,0,0,0,0,0,E0,0,0,0,0,0,0,false,0,E0,E0,E0,q.c,q.n,0,1,0,q.d,0,0,0,12,0,q.a,0,0,0,0,32,0,0,0,E0,0,0,0,0,0,0,false):=by
 have key:Ret (fun r=>r=((false,0,0,16,false,es,(qs.map qc),0,0,0,0,0,0,0,0,0,0,0,0,0,0,0,0,0,0,0,0,E0,0,0,0,0,0,0,false,0,E0,E0,E0,q.c,q.n,0,1,0,q.d,0,0,0,12,0,q.a,0,0,0,0,32,0,0,0,E0,0,0,0,0,0,0,false):Qt5)) (Zat 0 0 16 false es (qs.map qc) 0 0 0 0 0 0 0 0 0 0 0 0 0 0 0 0 0 0 0 0 E0 0 0 0 0 0 0 false 0 E0 E0 E0 q.c q.n 0 1 0 q.d 0 0 0 12 0 q.a 0 0 0 0 32 0 0 0 E0 0 0 0 0 0 0 false):=by
  rw [Zc7]
  refine Jc (Q:=fun r=>r=(((-1),0,0,16,false,es,(qs.map qc),0,0,0,0,0,0,0,0,0,0,0,0,0,0,0,0,0,0,0,0,E0,0,0,0,0,0,0,false,0,E0,E0,E0,q.c,q.n,0,1,0,q.d,0,0,0,12,0,q.a,0,0,0,0,32,0,0,0,E0,0,0,0,0,0,0,false):Qt6)) ?_ fun r hr=>by subst hr;exact Zi rfl
  rw [ZcO,List.length_map]
  refine ZQ (F:=fun k (_:Unit) i=>KM k (qs.length:Int) i 0 0 16 false es (qs.map qc) 0 0 0 0 0 0 0 0 0 0 0 0 0 0 0 0 0 0 0 0 E0 0 0 0 0 0 0 false 0 E0 E0 E0 q.c q.n 0 1 0 q.d 0 0 0 12 0 q.a 0 0 0 0 32 0 0 0 E0 0 0 0 0 0 0 false) qs.length (fun _ _=>True) (by omega) (fun k i _ hi _ next=>?_) () trivial
  refine Zu (W1 ..) (Zb (fun h=>?_) fun _=>Zi rfl)
  simp only [CQ] at h
  have hi':i < qs.length:=by omega
  refine ZO (Int.natCast_nonneg i) (ZO (by rw [List.length_map];omega) (Zu (Zd7 hi' _) ?_))
  refine Zu (congrArg (Option.bind · _) (ZiB ..)) (Zb (fun h=>?_) fun _=>?_)
  ·obtain ⟨h1,h2,_⟩:=Zmg h
   simp only [qV,CQ] at h1 h2
   exact (hno _ (List.getElem_mem hi') ⟨h1,h2⟩).elim
  ·rw [Ki hi (by omega)]
   exact next hi' () trivial
 obtain ⟨r,e,rfl⟩:=key
 exact e
theorem ZoZ (es:LL) (q0:Q) (w:LL) (qs:List Q) (hl:qs.length < 900) (q:Q) (hno:∀ e∈qs,¬ (e.c=q.c∧e.n=q.n)):Zat 0 0 16 false es (qs.map qc) q0.c q0.n 0 1 0 q0.d 0 0 0 12 0 q0.a 0 0 0 0 32 0 0 0 E0 0 0 0 0 0 0 false 5 w E0 E0 q.c q.n 0 1 0 q.d 0 0 0 12 0 q.a 0 0 0 0 32 0 0 0 E0 0 0 0 0 0 0 false=some (false,0,0,16,false,es,(qs.map qc),q0.c,q0.n,0,1,0,q0.d,0,0,0,12,0,q0.a,0,0,0,0,32,0,0,0,E0,0,0,0,0,0,0,false,5,w,E0,E0,q.c,q.n,0,1,0,q.d,0,0,0,12,0,q.a,0,0,0,0,32,0,0,0,E0,0,0,0,0,0,0,false):=by
 have key:Ret (fun r=>r=((false,0,0,16,false,es,(qs.map qc),q0.c,q0.n,0,1,0,q0.d,0,0,0,12,0,q0.a,0,0,0,0,32,0,0,0,E0,0,0,0,0,0,0,false,5,w,E0,E0,q.c,q.n,0,1,0,q.d,0,0,0,12,0,q.a,0,0,0,0,32,0,0,0,E0,0,0,0,0,0,0,false):Qt5)) (Zat 0 0 16 false es (qs.map qc) q0.c q0.n 0 1 0 q0.d 0 0 0 12 0 q0.a 0 0 0 0 32 0 0 0 E0 0 0 0 0 0 0 false 5 w E0 E0 q.c q.n 0 1 0 q.d 0 0 0 12 0 q.a 0 0 0 0 32 0 0 0 E0 0 0 0 0 0 0 false):=by
  rw [Zc7]
  refine Jc (Q:=fun r=>r=(((-1),0,0,16,false,es,(qs.map qc),q0.c,q0.n,0,1,0,q0.d,0,0,0,12,0,q0.a,0,0,0,0,32,0,0,0,E0,0,0,0,0,0,0,false,5,w,E0,E0,q.c,q.n,0,1,0,q.d,0,0,0,12,0,q.a,0,0,0,0,32,0,0,0,E0,0,0,0,0,0,0,false):Qt6)) ?_ fun r hr=>by subst hr;exact Zi rfl
  rw [ZcO,List.length_map]
  refine ZQ (F:=fun k (_:Unit) i=>KM k (qs.length:Int) i 0 0 16 false es (qs.map qc) q0.c q0.n 0 1 0 q0.d 0 0 0 12 0 q0.a 0 0 0 0 32 0 0 0 E0 0 0 0 0 0 0 false 5 w E0 E0 q.c q.n 0 1 0 q.d 0 0 0 12 0 q.a 0 0 0 0 32 0 0 0 E0 0 0 0 0 0 0 false) qs.length (fun _ _=>True) (by omega) (fun k i _ hi _ next=>?_) () trivial
  refine Zu (W1 ..) (Zb (fun h=>?_) fun _=>Zi rfl)
  simp only [CQ] at h
  have hi':i < qs.length:=by omega
  refine ZO (Int.natCast_nonneg i) (ZO (by rw [List.length_map];omega) (Zu (Zd7 hi' _) ?_))
  refine Zu (congrArg (Option.bind · _) (ZiB ..)) (Zb (fun h=>?_) fun _=>?_)
  ·obtain ⟨h1,h2,_⟩:=Zmg h
   simp only [qV,CQ] at h1 h2
   exact (hno _ (List.getElem_mem hi') ⟨h1,h2⟩).elim
  ·rw [Ki hi (by omega)]
   exact next hi' () trivial
 obtain ⟨r,e,rfl⟩:=key
 exact e
theorem Ziw (qs:List Q) (q:Q):qs.map qc++(E0++[qc q])=(qs++[q]).map qc:=by simp
theorem ZoY (es:LL) (q0:Q) (w:LL) (qs:List Q) (hl:qs.length < 900) (q:Q) (hq:QOk q) (hno:∀ e∈qs,¬ (e.c=q.c∧e.n=q.n)) (h0:¬ (q0.c=q.c∧q0.n=q.n)) :
  g14 0 0 16 false es (qs.map qc) q0.c q0.n 0 1 0 q0.d 0 0 0 12 0 q0.a 0 0 0 0 32 0 0 0 E0 0 0 0 0 0 0 false 5 w E0 E0 q.c q.n 0 1 0 q.d 0 0 0 12 0 q.a 0 0 0 0 32 0 0 0 E0 0 0 0 0 0 0 false=some (E0,oT es ((qs++[q]).map qc) q0 5 w):=by
 have key:Ret (fun r=>r=(E0,oT es ((qs++[q]).map qc) q0 5 w)) (g14 0 0 16 false es (qs.map qc) q0.c q0.n 0 1 0 q0.d 0 0 0 12 0 q0.a 0 0 0 0 32 0 0 0 E0 0 0 0 0 0 0 false 5 w E0 E0 q.c q.n 0 1 0 q.d 0 0 0 12 0 q.a 0 0 0 0 32 0 0 0 E0 0 0 0 0 0 0 false):=by
  rw [ZiM]
  refine Za (ZoZ es q0 w qs hl q hno) (Zb (fun h=>by cases h) fun _=>Zb (fun _=>Za (ZoQ q hq) (Zb (fun h=>by cases h) fun _=>Zb (fun h=>?_) fun _=>Zb (fun h=>?_) fun _=>?_)) fun h=>?_)
  ·exfalso;simp only [CQ] at h;exact h rfl
  ·obtain ⟨h1,h2,_⟩:=Zmg h
   simp only [CQ] at h1 h2
   exact (h0 ⟨h1,h2⟩).elim
  ·refine Za (ZnE q) (ZO (Jd (by simp;omega) (by decide)) ?_)
   have e:=Zpq es ((qs++[q]).map qc) q0 w
   rw [← Ziw] at e
   refine Za e (Zi ?_)
   rw [← Ziw];try rfl
  ·simp only [CQ] at h;omega
 obtain ⟨r,e,rfl⟩:=key
 exact e
theorem Zpe (es:List Q) (hE:EOk es) (q:Q) (hq:QOk q) (h1:∀ e∈es,¬ (e.c=q.c∧e.n=q.n)) (h2:∀ e∈es,¬ (e.c=q.c∧e.d=q.d)) :
  Ret (Zej es E0 q) (g14 0 0 16 false (es.map ec) (([] : List Q).map qc) 0 0 0 0 0 0 0 0 0 0 0 0 0 0 0 0 0 0 0 0 E0 0 0 0 0 0 0 false 0 E0 E0 E0 q.c q.n 0 1 0 q.d 0 0 0 12 0 q.a 0 0 0 0 32 0 0 0 E0 0 0 0 0 0 0 false):=by
 rw [ZiM]
 refine Za (Zpi (es.map ec) [] (by simp) q (by simp)) (Zb (fun h=>by cases h) fun _=>Zb (fun h=>?_) fun _=>Za (ZoQ q hq) (Zb (fun h=>by cases h) fun _=>Zb (fun h=>?_) fun _=>?_))
 ·exfalso;simp only [CQ] at h;exact h rfl
 ·exfalso;simp only [CQ] at h;exact h rfl
 ·refine Za (ZnE q) (ZO (Jd (by simp) (by decide)) ?_)
  refine Jc (ZoL es hE q [] hq.d hq.a h1 h2) fun r hr=>?_
  rcases hr with ⟨hc,rfl⟩ | ⟨hc,j,hj,rfl⟩
  ·exact Zi (.inl ⟨hc,rfl⟩)
  ·exact Zi (.inr ⟨hc,j,hj,rfl⟩)
end Go.Proofs.YtlgmnddelljbmaaGreat
end

section
namespace Go.Proofs.YtlgmnddelljbmaaGreat
open Go Go.AM
set_option linter.unusedSimpArgs false
set_option linter.unusedVariables false
set_option maxRecDepth 100000
theorem ZjA (f c n:Int):g45 3 0 f 0 0 0 0 c n 0 0 false 0 0 0 0 0 0 0 0 0 0 0 0 0 0 0 0 0 0 0 0 E0 0 0 0 0 0 0 false E0 E0 E0 E0 0 0 E0 E0 E0 E0 E0 E0 E0 E0 0 0 E0 E0 E0 E0 E0 E0 E0 E0 false 0 E0 E0 E0 E0 E0 E0 E0 E0=((g98 f).bind fun r=>if (!r)=true then some false else (((g90 c n 0).bind fun r=>some r).bind fun r=>if (!r)=true then some false else some true)):=by kernel_rfl
theorem ZjT {c n:Int} (hc:0≤c∧c < 4) (hn:1≤n∧n < 1000):g45 3 0 c 0 0 0 0 c n 0 0 false 0 0 0 0 0 0 0 0 0 0 0 0 0 0 0 0 0 0 0 0 E0 0 0 0 0 0 0 false E0 E0 E0 E0 0 0 E0 E0 E0 E0 E0 E0 E0 E0 0 0 E0 E0 E0 E0 E0 E0 E0 E0 false 0 E0 E0 E0 E0 E0 E0 E0 E0=some true:=by
 have e98:g98 c=some true:=by
  have key:Ret (fun r=>r=true) (g98 c):=by
   have e:g98 c=(if (cop .geq c 0)=true then some ((cop .lss c 32)) else some (false)):=by kernel_rfl
   rw [e]
   refine Zb (fun _=>Zi ?_) fun h=>?_
   ·simp only [CQ];omega
   ·exfalso;simp only [CQ] at h;omega
  obtain ⟨r,e,rfl⟩:=key
  exact e
 have e90:g90 c n 0=some true:=by rw [ZiD,ZkU _ _ hc hn];rfl
 rw [ZjA,e98,e90]
 rfl
theorem ZjX (es qs:LL) (q:Q):g18 0 0 16 false es qs q.c q.n 0 1 0 q.d 0 0 0 12 0 q.a 0 0 0 0 32 0 0 0 E0 0 0 0 0 0 0 false 5 E0 E0 E0 3 0 q.c 0 0 0 0 q.c q.n 0 0 false 0 0 0 0 0 0 0 0 0 0 0 0 0 0 0 0 0 0 0 0 E0 0 0 0 0 0 0 false E0 E0 E0 E0 0 0 E0 E0 E0 E0 E0 E0 E0 E0 0 0 E0 E0 E0 E0 E0 E0 E0 E0 false 0 E0 E0 E0 E0 E0 E0 E0 E0 =
  ((g45 3 0 q.c 0 0 0 0 q.c q.n 0 0 false 0 0 0 0 0 0 0 0 0 0 0 0 0 0 0 0 0 0 0 0 E0 0 0 0 0 0 0 false E0 E0 E0 E0 0 0 E0 E0 E0 E0 E0 E0 E0 E0 0 0 E0 E0 E0 E0 E0 E0 E0 E0 false 0 E0 E0 E0 E0 E0 E0 E0 E0).bind fun r=>if (!r)=true then some (E0,E0,oT es qs q 5 E0) else
   if (!((cop .eql q.c q.c)&&((cop .eql q.n q.n)&&((cop .eql 0 0)&&true))))=true then some (E0,E0,oT es qs q 5 E0) else
   if (cop .eql q.c q.c)=true then (g44 0 0 16 false es qs 0 0 0 0 0 0 0 0 0 0 0 0 0 0 0 0 0 0 0 0 E0 0 0 0 0 0 0 false 0 E0 E0 E0).bind fun r=>some (r.1,E0,r.2) else some (E0,E0,oT es qs q 5 E0)):=by kernel_rfl
theorem s18 {P:Qt11→Prop} (es qs:LL) (q:Q) (hc:0≤q.c∧q.c < 4) (hn:1≤q.n∧q.n < 1000) (h:Ret (fun r=>P (r.1,E0,r.2)) (g44 0 0 16 false es qs 0 0 0 0 0 0 0 0 0 0 0 0 0 0 0 0 0 0 0 0 E0 0 0 0 0 0 0 false 0 E0 E0 E0)) :
  Ret P (g18 0 0 16 false es qs q.c q.n 0 1 0 q.d 0 0 0 12 0 q.a 0 0 0 0 32 0 0 0 E0 0 0 0 0 0 0 false 5 E0 E0 E0 3 0 q.c 0 0 0 0 q.c q.n 0 0 false 0 0 0 0 0 0 0 0 0 0 0 0 0 0 0 0 0 0 0 0 E0 0 0 0 0 0 0 false E0 E0 E0 E0 0 0 E0 E0 E0 E0 E0 E0 E0 E0 0 0 E0 E0 E0 E0 E0 E0 E0 E0 false 0 E0 E0 E0 E0 E0 E0 E0 E0):=by
 rw [ZjX]
 refine Za (ZjT hc hn) (Zb (fun h=>by cases h) fun _=>Zb (fun h=>?_) fun _=>Zb (fun _=>Jc h fun r hr=>Zi hr) fun h=>?_)
 ·exfalso;simp [CQ] at h
 ·exact (h (by simp only [CQ])).elim
theorem Zpr (es:LL) (qs:List Q) (hl:qs.length < 900) (q:Q):ZmZ 0 0 16 false es (qs.map qc) q.c q.n 0 1 0 q.d 0 0 0 12 0 q.a 0 0 0 0 32 0 0 0 E0 0 0 0 0 0 0 false 5 E0 E0 E0=some (qs.map qc,oT es (qs.map qc) q 5 E0):=by
 rw [ZjV]
 have hr:K7 E0 (qs.map qc) 240:=Jd (by simp;omega) (by decide)
 cases qs with
 | nil => exact if_pos rfl
 | cons a l =>
  unfold Zfe
  simp only [List.map_cons,Bool.false_eq_true,if_false]
  simp only [List.map_cons] at hr
  rw [Z7 hr]
  rfl
theorem s52 (es:LL) (qs:List Q) (hl:qs.length < 900) (q:Q):g52 0 0 16 false es (qs.map qc) q.c q.n 0 1 0 q.d 0 0 0 12 0 q.a 0 0 0 0 32 0 0 0 E0 0 0 0 0 0 0 false 5 E0 E0 E0=some (qs.map qc,oT es (qs.map qc) q 5 E0):=by
 have key:Ret (fun r=>r=(qs.map qc,oT es (qs.map qc) q 5 E0)) (g52 0 0 16 false es (qs.map qc) q.c q.n 0 1 0 q.d 0 0 0 12 0 q.a 0 0 0 0 32 0 0 0 E0 0 0 0 0 0 0 false 5 E0 E0 E0):=by
  rw [ZkT]
  refine Za (Zpr es qs hl q) ?_
  refine ZQ (F:=fun k (s:LL) i=>ZhE k s ((qs.map qc).length:Int) i 0 0 16 false es (qs.map qc) q.c q.n 0 1 0 q.d 0 0 0 12 0 q.a 0 0 0 0 32 0 0 0 E0 0 0 0 0 0 0 false 5 E0 E0 E0) qs.length (fun _ s=>s=qs.map qc) (by omega) (fun k i s hi hs next=>?_) (qs.map qc) rfl
  subst hs
  refine Zu (ZhZ ..) (Zb (fun h=>?_) fun _=>Zi rfl)
  simp only [CQ,List.length_map] at h
  have hi':i < qs.length:=by omega
  have r1:(0:Int)≤(i:Int):=Int.natCast_nonneg i
  have r2:(i:Int) < ((qs.map qc).length:Int):=by rw [List.length_map];omega
  refine ZO r1 (ZO r2 (Zu (Zd7 hi' _) (Za (ZnE qs[i]) (ZO r1 (ZO r2 (ZO r1 (ZO r2 ?_)))))))
  rw [Ki hi (by omega)]
  refine next hi' _ (Zd0 fun r hr=>?_)
  rw [Int.toNat_natCast,List.getElem?_map,List.getElem?_eq_getElem hi'] at hr
  simp only [Option.map_some,Option.some.injEq] at hr
  subst hr
  rfl
 obtain ⟨r,e,rfl⟩:=key
 exact e
theorem s23 (es:LL) (qs:List Q) (hl:qs.length < 900) (q:Q):g23 0 0 16 false es (qs.map qc) q.c q.n 0 1 0 q.d 0 0 0 12 0 q.a 0 0 0 0 32 0 0 0 E0 0 0 0 0 0 0 false 5 E0 E0 E0=some (qs.map qc,oT es (qs.map qc) q 5 E0):=by
 rw [Zk1,s52 es qs hl q]
 rfl
end Go.Proofs.YtlgmnddelljbmaaGreat
end

section
namespace Go.Proofs.YtlgmnddelljbmaaGreat
open Go Go.AM
set_option linter.unusedSimpArgs false
set_option linter.unusedVariables false
set_option maxRecDepth 100000
theorem s12 (x n:Int) (h1:1≤n) (h2:n < 2^62):g12 x n=some (x % n):=by
 have e62:(2:Int)^62=4611686018427387904:=by decide
 have hm0:=Int.emod_nonneg x (show n≠0 by omega)
 have hm1:=Int.emod_lt_of_pos x (show 0 < n by omega)
 have ht:iop .rem .i64 x n=x.tmod n:=rfl
 rw [ZlB,if_neg (by simp only [CQ];omega),Z7 (by omega),ht]
 have:=Int.tmod_eq_emod (a:=x) (b:=n)
 by_cases hd:0≤x∨n ∣ x
 ·rw [if_pos hd] at this
  rw [if_neg (by simp only [CQ];omega)]
  congr 1
  omega
 ·rw [if_neg hd] at this
  have habs:((n.natAbs:Nat):Int)=n:=by omega
  have hne:x % n≠0:=fun h=>hd (.inr (Int.dvd_of_emod_eq_zero h))
  rw [if_pos (by simp only [CQ];omega),ZiU (by omega) (by omega)]
  congr 1
  omega
theorem Zmw {a:Int} (h:0≤a∧a < 16):iop .shl .i64 a 12=a*4096:=by
 obtain h | h | h | h | h | h | h | h | h | h | h | h | h | h | h | h:a=0∨a=1∨a=2∨a=3∨a=4∨a=5∨a=6∨a=7∨a=8∨a=9∨a=10∨a=11∨a=12∨a=13∨a=14∨a=15:=by omega
 all_goals (subst h;kernel_rfl)
def qk (l:List Int) (i:Nat):Q:=⟨l.getD i 0 % 4,(i:Int)+1,i,l.getD i 0 % 16*4096⟩
theorem ZfK (l:List Int) {i:Nat} (hi:i < 30):QOk (qk l i):=by
 refine ⟨⟨Int.emod_nonneg _ (by decide),Int.emod_lt_of_pos _ (by decide)⟩,⟨by show 1≤(i:Int)+1;omega,by show (i:Int)+1 < 1000;omega⟩,⟨by show 0≤(i:Int);omega,by show (i:Int) < 64;omega⟩,l.getD i 0 % 16,Int.emod_nonneg _ (by decide),Int.emod_lt_of_pos _ (by decide),rfl⟩
def qL (l:List Int) (i n:Nat):List Q:=(List.range' i (n-i)).map (qk l)
theorem ZjD (l:List Int) {i n:Nat} (h:i < n):qL l i n=qk l i::qL l (i+1) n:=by
 unfold qL
 obtain ⟨m,hm⟩:∃ m,n-i=m+1:=⟨n-i-1,by omega⟩
 rw [hm,List.range'_succ,show n-(i+1)=m by omega]
 rfl
theorem Zjv (l:List Int) {i n:Nat} (h:i≤n):qL l i (n+1)=qL l i n++[qk l n]:=by
 unfold qL
 rw [show n+1-i=(n-i)+1 by omega,List.range'_concat]
 simp
 congr 1
 omega
theorem ZiP (l:List Int) (i n:Nat):(qL l i n).length=n-i:=by simp [qL]
theorem Zlo {l:List Int} {i n:Nat} {e:Q} (h:e∈qL l i n):∃ k,i≤k∧k < n∧e=qk l k:=by
 unfold qL at h
 obtain ⟨k,hk,rfl⟩:=List.mem_map.1 h
 obtain ⟨h1,h2⟩:=List.mem_range'_1.1 hk
 exact ⟨k,h1,by omega,rfl⟩
structure ES (l:List Int) (t:Nat) (es:List Q):Prop where
 len:es.length≤t
 all:∀ e∈es,∃ k < t,e=qk l k
 has:∀ k < t,Zff es (qk l k).a=true
theorem ES.ok {l:List Int} {t:Nat} {es:List Q} (h:ES l t es) (ht:t≤30):EOk es:=by
 refine ⟨by have:=h.len;omega,fun e he=>?_,fun e he=>?_⟩
 ·obtain ⟨k,hk,rfl⟩:=h.all e he
  exact (ZfK l (by omega)).a
 ·obtain ⟨k,hk,rfl⟩:=h.all e he
  exact (ZfK l (by omega)).n.1
theorem ES.fresh {l:List Int} {t:Nat} {es:List Q} (h:ES l t es):(∀ e∈es,¬ (e.c=(qk l t).c∧e.n=(qk l t).n))∧∀ e∈es,¬ (e.c=(qk l t).c∧e.d=(qk l t).d):=by
 refine ⟨fun e he h1=>?_,fun e he h1=>?_⟩
 ·obtain ⟨k,hk,rfl⟩:=h.all e he
  have h2:(k:Int)+1=(t:Int)+1:=h1.2
  omega
 ·obtain ⟨k,hk,rfl⟩:=h.all e he
  have h2:(k:Int)=(t:Int):=h1.2
  omega
theorem Zhs (es:List Q) (j:Nat) (q:Q) (a:Int):Zff (es.take j++q::es.drop j) a=(Zff es a||decide (q.a=a)):=by
 unfold Zff
 have e:es.any (fun e=>decide (e.a=a))=((es.take j).any (fun e=>decide (e.a=a))||(es.drop j).any (fun e=>decide (e.a=a))):=by
  rw [← List.any_append,List.take_append_drop]
 rw [e,List.any_append,List.any_cons]
 cases (es.take j).any (fun e=>decide (e.a=a))<;>cases (es.drop j).any (fun e=>decide (e.a=a))<;>simp
def At (l:List Int) (n t:Nat) (r:LL×Qt14):Prop:=
 ∃ (es:List Q) (err:Int) (nodes:LL),ES l (t+1) es∧(err=0↔∀ k < t,(qk l k).a≠(qk l t).a)∧r=([Vu (qk l t) err nodes],oT (es.map ec) ((qL l (t+1) n).map qc) (qk l t) 5 E0)
theorem Zkk {l:List Int} {n t:Nat} {es:List Q} (h:ES l t es) {r:LL×Qt14} (hr:Zej es ((qL l (t+1) n).map qc) (qk l t) r):At l n t r:=by
 rcases hr with ⟨hc,rfl⟩ | ⟨hc,j,hj,rfl⟩
 ·refine ⟨es,7,[],⟨Nat.le_succ_of_le h.len,fun e he=>?_,fun k hk=>?_⟩,⟨fun h=>by omega,fun hh=>?_⟩,rfl⟩
  ·obtain ⟨k,hk,rfl⟩:=h.all e he
   exact ⟨k,by omega,rfl⟩
  ·by_cases hkt:k=t
   ·subst hkt;exact hc
   ·exact h.has k (by omega)
  ·exfalso
   unfold Zff at hc
   rw [List.any_eq_true] at hc
   obtain ⟨e,he,hea⟩:=hc
   obtain ⟨k,hk,rfl⟩:=h.all e he
   exact hh k hk (by simpa using hea)
 ·refine ⟨es.take j++qk l t::es.drop j,0,[nc (qk l t)],⟨by have:=h.len;simp;omega,fun e he=>?_,fun k hk=>?_⟩,⟨fun _ k hk hka=>?_,fun _=>rfl⟩,rfl⟩
  ·rcases List.mem_append.1 he with he | he
   ·obtain ⟨k,hk,rfl⟩:=h.all e (List.mem_of_mem_take he)
    exact ⟨k,by omega,rfl⟩
   ·rcases List.mem_cons.1 he with rfl | he
    ·exact ⟨t,by omega,rfl⟩
    ·obtain ⟨k,hk,rfl⟩:=h.all e (List.mem_of_mem_drop he)
     exact ⟨k,by omega,rfl⟩
  ·rw [Zhs]
   by_cases hkt:k=t
   ·subst hkt;simp
   ·rw [h.has k (by omega)];rfl
  ·have:=h.has k hk
   rw [hka,hc] at this
   cases this
def dV (q:Q) (err:Int) (nodes:LL):ShsT hs0:=(2,0,0,q.c,0,0,0,q.c,q.n,0,err,false,0,0,0,0,0,0,0,0,0,0,0,0,0,0,0,0,0,0,0,0,E0,0,0,0,0,0,0,false,E0,nodes,E0,E0,0,0,E0,E0,E0,E0,E0,E0,E0,E0,0,0,E0,E0,E0,E0,E0,E0,E0,E0,false,0,E0,E0,E0,E0,E0,E0,E0,E0)
theorem Zan {γ:Type} (q:Q) (err:Int) (nodes:LL) (k:ShsT hs0→Option γ):Z8 [Vu q err nodes] 0 hs0 k=k (dV q err nodes):=Zea k (Int.le_refl 0) (cs:=Vu q err nodes) rfl rfl
end Go.Proofs.YtlgmnddelljbmaaGreat
end

section
namespace Go.Proofs.YtlgmnddelljbmaaGreat
open Go Go.AM
set_option linter.unusedSimpArgs false
set_option linter.unusedVariables false
set_option maxRecDepth 100000
theorem ZmJ {l:List Int} {j:Nat} (h:j < l.length):(qk l j).a=l[j] % 16*4096:=by
 simp [qk,h]
theorem ZoH {l:List Int} {j:Nat} (h:j < l.length):(qk l j).c=l[j] % 4:=by
 simp [qk,h]
set_option maxHeartbeats 4000000 in
theorem l0 (l:List Int) (n i:Nat) (hi:i < n) (hn:n≤30) (hnl:n≤l.length) (es:LL) (err:Int) (nodes:LL) (herr:err=0↔∀ k < i,(qk l k).a≠(qk l i).a) (qs:LL) (k:Nat) {GP:Qt13→Prop}
  (hg:Ret GP (g44 0 0 16 false es qs 0 0 0 0 0 0 0 0 0 0 0 0 0 0 0 0 0 0 0 0 E0 0 0 0 0 0 0 false 0 E0 E0 E0)) (hrec:∀ r:Qt13,GP r→Ret (fun b=>b=true) (ZkR k (ZL l) (n:Int) r.1 ((i+1:Nat):Int) r.2.1 r.2.2.1 r.2.2.2.1 r.2.2.2.2.1 r.2.2.2.2.2.1 r.2.2.2.2.2.2.1 r.2.2.2.2.2.2.2.1 r.2.2.2.2.2.2.2.2.1 r.2.2.2.2.2.2.2.2.2.1 r.2.2.2.2.2.2.2.2.2.2.1 r.2.2.2.2.2.2.2.2.2.2.2.1 r.2.2.2.2.2.2.2.2.2.2.2.2.1 r.2.2.2.2.2.2.2.2.2.2.2.2.2.1 r.2.2.2.2.2.2.2.2.2.2.2.2.2.2.1 r.2.2.2.2.2.2.2.2.2.2.2.2.2.2.2.1 r.2.2.2.2.2.2.2.2.2.2.2.2.2.2.2.2.1 r.2.2.2.2.2.2.2.2.2.2.2.2.2.2.2.2.2.1 r.2.2.2.2.2.2.2.2.2.2.2.2.2.2.2.2.2.2.1 r.2.2.2.2.2.2.2.2.2.2.2.2.2.2.2.2.2.2.2.1 r.2.2.2.2.2.2.2.2.2.2.2.2.2.2.2.2.2.2.2.2.1 r.2.2.2.2.2.2.2.2.2.2.2.2.2.2.2.2.2.2.2.2.2.1 r.2.2.2.2.2.2.2.2.2.2.2.2.2.2.2.2.2.2.2.2.2.2.1 r.2.2.2.2.2.2.2.2.2.2.2.2.2.2.2.2.2.2.2.2.2.2.2.1 r.2.2.2.2.2.2.2.2.2.2.2.2.2.2.2.2.2.2.2.2.2.2.2.2.1 r.2.2.2.2.2.2.2.2.2.2.2.2.2.2.2.2.2.2.2.2.2.2.2.2.2.1 r.2.2.2.2.2.2.2.2.2.2.2.2.2.2.2.2.2.2.2.2.2.2.2.2.2.2.1 r.2.2.2.2.2.2.2.2.2.2.2.2.2.2.2.2.2.2.2.2.2.2.2.2.2.2.2.1 r.2.2.2.2.2.2.2.2.2.2.2.2.2.2.2.2.2.2.2.2.2.2.2.2.2.2.2.2.1 r.2.2.2.2.2.2.2.2.2.2.2.2.2.2.2.2.2.2.2.2.2.2.2.2.2.2.2.2.2.1 r.2.2.2.2.2.2.2.2.2.2.2.2.2.2.2.2.2.2.2.2.2.2.2.2.2.2.2.2.2.2.1 r.2.2.2.2.2.2.2.2.2.2.2.2.2.2.2.2.2.2.2.2.2.2.2.2.2.2.2.2.2.2.2.1 r.2.2.2.2.2.2.2.2.2.2.2.2.2.2.2.2.2.2.2.2.2.2.2.2.2.2.2.2.2.2.2.2.1 r.2.2.2.2.2.2.2.2.2.2.2.2.2.2.2.2.2.2.2.2.2.2.2.2.2.2.2.2.2.2.2.2.2.1 r.2.2.2.2.2.2.2.2.2.2.2.2.2.2.2.2.2.2.2.2.2.2.2.2.2.2.2.2.2.2.2.2.2.2.1 r.2.2.2.2.2.2.2.2.2.2.2.2.2.2.2.2.2.2.2.2.2.2.2.2.2.2.2.2.2.2.2.2.2.2.2.1 r.2.2.2.2.2.2.2.2.2.2.2.2.2.2.2.2.2.2.2.2.2.2.2.2.2.2.2.2.2.2.2.2.2.2.2.2.1 r.2.2.2.2.2.2.2.2.2.2.2.2.2.2.2.2.2.2.2.2.2.2.2.2.2.2.2.2.2.2.2.2.2.2.2.2.2.1 r.2.2.2.2.2.2.2.2.2.2.2.2.2.2.2.2.2.2.2.2.2.2.2.2.2.2.2.2.2.2.2.2.2.2.2.2.2.2)) :
  Ret (fun b=>b=true) (Zkj (F5.lp [3,1,0] 0 r0 k) KX (ZL l) (n:Int) [Vu (qk l i) err nodes] (i:Int) true 0 0 0 16 false es qs (qk l i).c (qk l i).n 0 1 0 (qk l i).d 0 0 0 12 0 (qk l i).a 0 0 0 0 32 0 0 0 E0 0 0 0 0 0 0 false 5 E0 E0 E0):=by
 have hil:i < l.length:=by omega
 refine ZQ (F:=fun q (b:Bool) j=>Zkj (F5.lp [3,1,0] 0 r0 k) q (ZL l) (n:Int) [Vu (qk l i) err nodes] (i:Int) b j 0 0 16 false es qs (qk l i).c (qk l i).n 0 1 0 (qk l i).d 0 0 0 12 0 (qk l i).a 0 0 0 0 32 0 0 0 E0 0 0 0 0 0 0 false 5 E0 E0 E0) i (fun j b=>(b=true↔∀ m < j,(qk l m).a≠(qk l i).a)) (by omega) (fun q j b hj hJ next=>?_) true ⟨fun _ m h=>by omega,fun _=>rfl⟩
 refine Zu (Zjs ..) (Zb (fun h=>Zb (fun hb=>?_) fun hb=>?_) fun h=>?_)
 ·simp only [CQ] at h
  have hj':j < i:=by omega
  have hjl:j < l.length:=by omega
  refine Zu (Yp hjl _) (Za (s12 _ 16 (by decide) (by decide)) (Zu (Yp hil _) (Za (s12 _ 16 (by decide) (by decide)) ?_)))
  rw [Ki hj (by omega)]
  refine next hj' _ ?_
  have e1:=ZmJ hjl
  have e2:=ZmJ hil
  constructor
  ·intro h1 m hm
   simp only [CQ] at h1
   by_cases hmj:m=j
   ·subst hmj;omega
   ·exact hJ.1 hb m (by omega)
  ·intro h1
   have:=h1 j (by omega)
   simp only [CQ]
   omega
 ·simp only [CQ] at h
  have hj':j < i:=by omega
  rw [Ki hj (by omega)]
  refine next hj' _ ⟨fun h=>(by cases h),fun h1=>?_⟩
  exact (hb (hJ.2 fun m hm=>h1 m (by omega))).elim
 ·simp only [CQ] at h
  have hji:j=i:=by omega
  subst hji
  have hb:(cop .eql err 0)=b:=by
   rw [VV]
   simp only [CQ]
   exact herr.trans hJ.symm
  refine Zu (Zan ..) (Zb (fun h2=>?_) fun _=>Zu (Zan ..) (Zu (Zan ..) ?_))
  ·exfalso
   have h2':(!((cop .eql err 0) == b))=true:=h2
   rw [hb] at h2'
   simp at h2'
  ·rw [Ki hj (by omega)]
   have hq:=ZfK l (show j < 30 by omega)
   exact Jc (s18 (P:=fun r=>GP (r.1,r.2.2)) es qs (qk l j) hq.c hq.n (Zih hg fun r h=>h)) fun r hr=>hrec (r.1,r.2.2) hr
set_option maxHeartbeats 4000000 in
theorem l1 (l:List Int) (n:Nat) (hn:n≤30) (hnl:n≤l.length) (s:LL×Qt14) (hs:(0 < n→At l n 0 s)∧(n=0→∃ es:List Q,s=(E0,zT (es.map ec) E0))) :
  Ret (fun b=>b=true) (ZkR KX (ZL l) (n:Int) s.1 0 s.2.1 s.2.2.1 s.2.2.2.1 s.2.2.2.2.1 s.2.2.2.2.2.1 s.2.2.2.2.2.2.1 s.2.2.2.2.2.2.2.1 s.2.2.2.2.2.2.2.2.1 s.2.2.2.2.2.2.2.2.2.1 s.2.2.2.2.2.2.2.2.2.2.1 s.2.2.2.2.2.2.2.2.2.2.2.1 s.2.2.2.2.2.2.2.2.2.2.2.2.1 s.2.2.2.2.2.2.2.2.2.2.2.2.2.1 s.2.2.2.2.2.2.2.2.2.2.2.2.2.2.1 s.2.2.2.2.2.2.2.2.2.2.2.2.2.2.2.1 s.2.2.2.2.2.2.2.2.2.2.2.2.2.2.2.2.1 s.2.2.2.2.2.2.2.2.2.2.2.2.2.2.2.2.2.1 s.2.2.2.2.2.2.2.2.2.2.2.2.2.2.2.2.2.2.1 s.2.2.2.2.2.2.2.2.2.2.2.2.2.2.2.2.2.2.2.1 s.2.2.2.2.2.2.2.2.2.2.2.2.2.2.2.2.2.2.2.2.1 s.2.2.2.2.2.2.2.2.2.2.2.2.2.2.2.2.2.2.2.2.2.1 s.2.2.2.2.2.2.2.2.2.2.2.2.2.2.2.2.2.2.2.2.2.2.1 s.2.2.2.2.2.2.2.2.2.2.2.2.2.2.2.2.2.2.2.2.2.2.2.1 s.2.2.2.2.2.2.2.2.2.2.2.2.2.2.2.2.2.2.2.2.2.2.2.2.1 s.2.2.2.2.2.2.2.2.2.2.2.2.2.2.2.2.2.2.2.2.2.2.2.2.2.1 s.2.2.2.2.2.2.2.2.2.2.2.2.2.2.2.2.2.2.2.2.2.2.2.2.2.2.1 s.2.2.2.2.2.2.2.2.2.2.2.2.2.2.2.2.2.2.2.2.2.2.2.2.2.2.2.1 s.2.2.2.2.2.2.2.2.2.2.2.2.2.2.2.2.2.2.2.2.2.2.2.2.2.2.2.2.1 s.2.2.2.2.2.2.2.2.2.2.2.2.2.2.2.2.2.2.2.2.2.2.2.2.2.2.2.2.2.1 s.2.2.2.2.2.2.2.2.2.2.2.2.2.2.2.2.2.2.2.2.2.2.2.2.2.2.2.2.2.2.1 s.2.2.2.2.2.2.2.2.2.2.2.2.2.2.2.2.2.2.2.2.2.2.2.2.2.2.2.2.2.2.2.1 s.2.2.2.2.2.2.2.2.2.2.2.2.2.2.2.2.2.2.2.2.2.2.2.2.2.2.2.2.2.2.2.2.1 s.2.2.2.2.2.2.2.2.2.2.2.2.2.2.2.2.2.2.2.2.2.2.2.2.2.2.2.2.2.2.2.2.2.1 s.2.2.2.2.2.2.2.2.2.2.2.2.2.2.2.2.2.2.2.2.2.2.2.2.2.2.2.2.2.2.2.2.2.2.1 s.2.2.2.2.2.2.2.2.2.2.2.2.2.2.2.2.2.2.2.2.2.2.2.2.2.2.2.2.2.2.2.2.2.2.2.1 s.2.2.2.2.2.2.2.2.2.2.2.2.2.2.2.2.2.2.2.2.2.2.2.2.2.2.2.2.2.2.2.2.2.2.2.2.1 s.2.2.2.2.2.2.2.2.2.2.2.2.2.2.2.2.2.2.2.2.2.2.2.2.2.2.2.2.2.2.2.2.2.2.2.2.2.1 s.2.2.2.2.2.2.2.2.2.2.2.2.2.2.2.2.2.2.2.2.2.2.2.2.2.2.2.2.2.2.2.2.2.2.2.2.2.2):=by
 refine ZQ (F:=fun q (s:LL×Qt14) i=>ZkR q (ZL l) (n:Int) s.1 i s.2.1 s.2.2.1 s.2.2.2.1 s.2.2.2.2.1 s.2.2.2.2.2.1 s.2.2.2.2.2.2.1 s.2.2.2.2.2.2.2.1 s.2.2.2.2.2.2.2.2.1 s.2.2.2.2.2.2.2.2.2.1 s.2.2.2.2.2.2.2.2.2.2.1 s.2.2.2.2.2.2.2.2.2.2.2.1 s.2.2.2.2.2.2.2.2.2.2.2.2.1 s.2.2.2.2.2.2.2.2.2.2.2.2.2.1 s.2.2.2.2.2.2.2.2.2.2.2.2.2.2.1 s.2.2.2.2.2.2.2.2.2.2.2.2.2.2.2.1 s.2.2.2.2.2.2.2.2.2.2.2.2.2.2.2.2.1 s.2.2.2.2.2.2.2.2.2.2.2.2.2.2.2.2.2.1 s.2.2.2.2.2.2.2.2.2.2.2.2.2.2.2.2.2.2.1 s.2.2.2.2.2.2.2.2.2.2.2.2.2.2.2.2.2.2.2.1 s.2.2.2.2.2.2.2.2.2.2.2.2.2.2.2.2.2.2.2.2.1 s.2.2.2.2.2.2.2.2.2.2.2.2.2.2.2.2.2.2.2.2.2.1 s.2.2.2.2.2.2.2.2.2.2.2.2.2.2.2.2.2.2.2.2.2.2.1 s.2.2.2.2.2.2.2.2.2.2.2.2.2.2.2.2.2.2.2.2.2.2.2.1 s.2.2.2.2.2.2.2.2.2.2.2.2.2.2.2.2.2.2.2.2.2.2.2.2.1 s.2.2.2.2.2.2.2.2.2.2.2.2.2.2.2.2.2.2.2.2.2.2.2.2.2.1 s.2.2.2.2.2.2.2.2.2.2.2.2.2.2.2.2.2.2.2.2.2.2.2.2.2.2.1 s.2.2.2.2.2.2.2.2.2.2.2.2.2.2.2.2.2.2.2.2.2.2.2.2.2.2.2.1 s.2.2.2.2.2.2.2.2.2.2.2.2.2.2.2.2.2.2.2.2.2.2.2.2.2.2.2.2.1 s.2.2.2.2.2.2.2.2.2.2.2.2.2.2.2.2.2.2.2.2.2.2.2.2.2.2.2.2.2.1 s.2.2.2.2.2.2.2.2.2.2.2.2.2.2.2.2.2.2.2.2.2.2.2.2.2.2.2.2.2.2.1 s.2.2.2.2.2.2.2.2.2.2.2.2.2.2.2.2.2.2.2.2.2.2.2.2.2.2.2.2.2.2.2.1 s.2.2.2.2.2.2.2.2.2.2.2.2.2.2.2.2.2.2.2.2.2.2.2.2.2.2.2.2.2.2.2.2.1 s.2.2.2.2.2.2.2.2.2.2.2.2.2.2.2.2.2.2.2.2.2.2.2.2.2.2.2.2.2.2.2.2.2.1 s.2.2.2.2.2.2.2.2.2.2.2.2.2.2.2.2.2.2.2.2.2.2.2.2.2.2.2.2.2.2.2.2.2.2.1 s.2.2.2.2.2.2.2.2.2.2.2.2.2.2.2.2.2.2.2.2.2.2.2.2.2.2.2.2.2.2.2.2.2.2.2.1 s.2.2.2.2.2.2.2.2.2.2.2.2.2.2.2.2.2.2.2.2.2.2.2.2.2.2.2.2.2.2.2.2.2.2.2.2.1 s.2.2.2.2.2.2.2.2.2.2.2.2.2.2.2.2.2.2.2.2.2.2.2.2.2.2.2.2.2.2.2.2.2.2.2.2.2.1 s.2.2.2.2.2.2.2.2.2.2.2.2.2.2.2.2.2.2.2.2.2.2.2.2.2.2.2.2.2.2.2.2.2.2.2.2.2.2) n (fun i s=>(i < n→At l n i s)∧(i=n→∃ es:List Q,s=(E0,zT (es.map ec) E0))) (by omega) (fun q i s hi hJ next=>?_) s ⟨hs.1,fun h=>hs.2 h.symm⟩
 by_cases hin:i < n
 ·obtain ⟨es,err,nodes,hES,herr,rfl⟩:=hJ.1 hin
  have hil:i < l.length:=by omega
  have hql:(qL l (i+1) n).length=n-(i+1):=ZiP ..
  refine Zu (Zgk ..) (Zb (fun _=>Zb (fun h=>?_) fun _=>Zu (Zan ..) (Zb (fun h=>?_) fun _=>Zu (Zan ..) (Zb (fun h=>?_) fun _=>Zu (Zan ..) (Zu (Yp hil _) (Za (s12 _ 4 (by decide) (by decide)) (Zb (fun h=>?_) fun _=>Za (s23 (es.map ec) (qL l (i+1) n) (by omega) (qk l i)) (Zb (fun h=>?_) fun _=>?_))))))) fun h=>?_)
  ·exfalso;simp only [CQ,List.length_singleton] at h;exact h rfl
  ·exfalso
   have h':cop .neq 2 2=true:=h
   simp only [CQ] at h';exact h' rfl
  ·exfalso
   have h':cop .neq ((i:Int)+1) (iop .add .i64 (i:Int) 1)=true:=h
   rw [Ki hi (by omega)] at h'
   simp only [CQ] at h';omega
  ·exfalso
   have h':cop .neq (qk l i).c (l[i] % 4)=true:=h
   rw [ZoH hil] at h'
   simp only [CQ] at h';exact h' rfl
  ·exfalso
   have h':cop .neq (((qL l (i+1) n).map qc).length:Int) (iop .sub .i64 (iop .sub .i64 (n:Int) (i:Int)) 1)=true:=h
   rw [ZkS (a:=(n:Int)) (b:=(i:Int)) (by omega) (by omega),ZkS (by omega) (by omega),List.length_map,hql] at h'
   simp only [CQ] at h';omega
  ·by_cases hl:i+1=n
   ·have hqe:qL l (i+1) n = []:=List.eq_nil_of_length_eq_zero (by rw [hql];omega)
    rw [hqe] at *
    refine l0 l n i hin hn hnl (es.map ec) err nodes herr E0 q (GP:=fun r=>r=(E0,zT (es.map ec) E0)) ⟨_,Zpb (es.map ec),rfl⟩ fun r hr=>?_
    exact next hin r ⟨fun h=>by omega,fun _=>⟨es,hr⟩⟩
   ·have hlt:i+1 < n:=by omega
    obtain ⟨f1,f2⟩:=hES.fresh
    have hq:=ZfK l (show i+1 < 30 by omega)
    have hg:=ZoL es (hES.ok (by omega)) (qk l (i+1)) (qL l (i+2) n) hq.d hq.a f1 f2
    rw [← ZjD l hlt] at hg
    refine l0 l n i hin hn hnl (es.map ec) err nodes herr ((qL l (i+1) n).map qc) q hg fun r hr=>?_
    exact next hin r ⟨fun _=>Zkk hES hr,fun h=>by omega⟩
  ·exfalso;simp only [CQ] at h;omega
 ·have hie:i=n:=by omega
  obtain ⟨es,rfl⟩:=hJ.2 hie
  have e8:g8=some true:=by kernel_rfl
  have e24:g24 0 0 16 false (es.map ec) E0 0 0 0 0 0 0 0 0 0 0 0 0 0 0 0 0 0 0 0 0 E0 0 0 0 0 0 0 false 0 E0 E0 E0=some (0,0,0,0,0,0,0,0,0,0,0,0,0,0,0,0,0,0,0,0,E0,0,0,0,0,0,0,false,0,0,0,16,false,(es.map ec),E0,0,0,0,0,0,0,0,0,0,0,0,0,0,0,0,0,0,0,0,0,E0,0,0,0,0,0,0,false,0,E0,E0,E0):=by
   have h:=s87 ⟨⟨0,0,0⟩,[],⟨0,0,0,0,0,0,false⟩⟩ (Nat.zero_le _)
   rw [Zlv,ZiA]
   show (((g87 0 0 0 (Y4 []) 0 0 0 0 0 0 false).bind _).bind _)=_
   rw [h]
   rfl
  refine Zu (Zgk ..) (Zb (fun h=>?_) fun _=>Za e24 (Zb (fun _=>Zb (fun _=>Za e8 (Zi rfl)) fun h=>?_) fun h=>?_))
  ·exfalso;simp only [CQ] at h;omega
  ·exact (h (by simp only [CQ])).elim
  ·exact (h (by simp only [CQ,List.length_nil];rfl)).elim
end Go.Proofs.YtlgmnddelljbmaaGreat
end

section
namespace Go.Proofs.YtlgmnddelljbmaaGreat
open Go Go.AM
set_option linter.unusedSimpArgs false
set_option linter.unusedVariables false
set_option maxRecDepth 100000
theorem es0 (l:List Int):ES l 0 []:=⟨Nat.le_refl _,by simp,fun k hk=>by omega⟩
set_option maxHeartbeats 4000000 in
theorem l2 (l:List Int) (n:Nat) (hn:n≤30) (hnl:n≤l.length) :
  Ret (fun b=>b=true) (Zlz KX (ZL l) (n:Int) E0 0 0 0 16 false E0 E0 0 0 0 0 0 0 0 0 0 0 0 0 0 0 0 0 0 0 0 0 E0 0 0 0 0 0 0 false 0 E0 E0 E0):=by
 refine ZQ (F:=fun q (s:LL×Qt14) i=>Zlz q (ZL l) (n:Int) s.1 i s.2.1 s.2.2.1 s.2.2.2.1 s.2.2.2.2.1 s.2.2.2.2.2.1 s.2.2.2.2.2.2.1 s.2.2.2.2.2.2.2.1 s.2.2.2.2.2.2.2.2.1 s.2.2.2.2.2.2.2.2.2.1 s.2.2.2.2.2.2.2.2.2.2.1 s.2.2.2.2.2.2.2.2.2.2.2.1 s.2.2.2.2.2.2.2.2.2.2.2.2.1 s.2.2.2.2.2.2.2.2.2.2.2.2.2.1 s.2.2.2.2.2.2.2.2.2.2.2.2.2.2.1 s.2.2.2.2.2.2.2.2.2.2.2.2.2.2.2.1 s.2.2.2.2.2.2.2.2.2.2.2.2.2.2.2.2.1 s.2.2.2.2.2.2.2.2.2.2.2.2.2.2.2.2.2.1 s.2.2.2.2.2.2.2.2.2.2.2.2.2.2.2.2.2.2.1 s.2.2.2.2.2.2.2.2.2.2.2.2.2.2.2.2.2.2.2.1 s.2.2.2.2.2.2.2.2.2.2.2.2.2.2.2.2.2.2.2.2.1 s.2.2.2.2.2.2.2.2.2.2.2.2.2.2.2.2.2.2.2.2.2.1 s.2.2.2.2.2.2.2.2.2.2.2.2.2.2.2.2.2.2.2.2.2.2.1 s.2.2.2.2.2.2.2.2.2.2.2.2.2.2.2.2.2.2.2.2.2.2.2.1 s.2.2.2.2.2.2.2.2.2.2.2.2.2.2.2.2.2.2.2.2.2.2.2.2.1 s.2.2.2.2.2.2.2.2.2.2.2.2.2.2.2.2.2.2.2.2.2.2.2.2.2.1 s.2.2.2.2.2.2.2.2.2.2.2.2.2.2.2.2.2.2.2.2.2.2.2.2.2.2.1 s.2.2.2.2.2.2.2.2.2.2.2.2.2.2.2.2.2.2.2.2.2.2.2.2.2.2.2.1 s.2.2.2.2.2.2.2.2.2.2.2.2.2.2.2.2.2.2.2.2.2.2.2.2.2.2.2.2.1 s.2.2.2.2.2.2.2.2.2.2.2.2.2.2.2.2.2.2.2.2.2.2.2.2.2.2.2.2.2.1 s.2.2.2.2.2.2.2.2.2.2.2.2.2.2.2.2.2.2.2.2.2.2.2.2.2.2.2.2.2.2.1 s.2.2.2.2.2.2.2.2.2.2.2.2.2.2.2.2.2.2.2.2.2.2.2.2.2.2.2.2.2.2.2.1 s.2.2.2.2.2.2.2.2.2.2.2.2.2.2.2.2.2.2.2.2.2.2.2.2.2.2.2.2.2.2.2.2.1 s.2.2.2.2.2.2.2.2.2.2.2.2.2.2.2.2.2.2.2.2.2.2.2.2.2.2.2.2.2.2.2.2.2.1 s.2.2.2.2.2.2.2.2.2.2.2.2.2.2.2.2.2.2.2.2.2.2.2.2.2.2.2.2.2.2.2.2.2.2.1 s.2.2.2.2.2.2.2.2.2.2.2.2.2.2.2.2.2.2.2.2.2.2.2.2.2.2.2.2.2.2.2.2.2.2.2.1 s.2.2.2.2.2.2.2.2.2.2.2.2.2.2.2.2.2.2.2.2.2.2.2.2.2.2.2.2.2.2.2.2.2.2.2.2.1 s.2.2.2.2.2.2.2.2.2.2.2.2.2.2.2.2.2.2.2.2.2.2.2.2.2.2.2.2.2.2.2.2.2.2.2.2.2.1 s.2.2.2.2.2.2.2.2.2.2.2.2.2.2.2.2.2.2.2.2.2.2.2.2.2.2.2.2.2.2.2.2.2.2.2.2.2.2) n (fun i s=>(0 < i→At l i 0 s)∧(i=0→s=(E0,zT E0 E0))) (by omega) (fun q i s hi hJ next=>?_) (E0,zT E0 E0) ⟨fun h=>by omega,fun _=>rfl⟩
 refine Zu (Zjo ..) (Zb (fun h=>?_) fun h=>?_)
 ·simp only [CQ] at h
  have hin:i < n:=by omega
  have hil:i < l.length:=by omega
  have hq:=ZfK l (show i < 30 by omega)
  have e22:g22 (l[i] % 4) (iop .add .i64 (i:Int) 1) (i:Int) (iop .shl .i64 (l[i] % 16) 12)=some (rT (qk l i)):=by
   rw [ZlN,Ki hi (by omega),Zmw ⟨Int.emod_nonneg _ (by decide),Int.emod_lt_of_pos _ (by decide)⟩,← ZmJ hil,← ZoH hil]
   rfl
  refine Zu (Yp hil _) (Za (s12 _ 4 (by decide) (by decide)) (Zu (Yp hil _) (Za (s12 _ 16 (by decide) (by decide)) (ZO (by decide) (Za e22 ?_)))))
  by_cases h0:i=0
  ·have hs:=hJ.2 h0
   subst hs
   subst h0
   obtain ⟨f1,f2⟩:=(es0 l).fresh
   refine Jc (Zpe [] ((es0 l).ok (by omega)) (qk l 0) hq f1 f2) fun r hr=>?_
   have hA:At l 1 0 r:=Zkk (es0 l) (n:=1) hr
   have hlen:r.1.length=1:=by obtain ⟨_,_,_,_,_,rfl⟩:=hA;rfl
   refine ZO (Jd (by simp [hlen]) (by decide)) ?_
   rw [Ki hi (by omega)]
   exact next hin (E0++r.1,r.2) ⟨fun _=>hA,fun h=>by omega⟩
  ·obtain ⟨es,err,nodes,hES,herr,rfl⟩:=hJ.1 (by omega)
   refine Za (ZoY (es.map ec) (qk l 0) E0 (qL l 1 i) (by rw [ZiP];omega) (qk l i) hq (fun e he h1=>?_) fun h1=>?_) ?_
   ·obtain ⟨k,hk1,hk2,rfl⟩:=Zlo he
    have h2:(k:Int)+1=(i:Int)+1:=h1.2
    omega
   ·have h2:((0:Nat):Int)+1=(i:Int)+1:=h1.2
    omega
   ·refine ZO (Jd (by simp) (by decide)) ?_
    rw [Ki hi (by omega),← Zjv l (show 1≤i by omega)]
    refine next hin (([Vu (qk l 0) err nodes] : LL)++E0,oT (es.map ec) ((qL l 1 (i+1)).map qc) (qk l 0) 5 E0) ⟨fun _=>⟨es,err,nodes,hES,herr,rfl⟩,fun h=>by omega⟩
 ·simp only [CQ] at h
  have hie:i=n:=by omega
  subst hie
  exact l1 l i hn hnl s ⟨hJ.1,fun h=>⟨[],hJ.2 h⟩⟩
theorem s5 (l:List Int):g5 (ZL l)=some true:=by
 have key:Ret (fun b=>b=true) (g5 (ZL l)):=by
  have e9:g9 0 0 16 false E0=some (zT E0 E0):=by kernel_rfl
  have e10:g10=some (0,16,false):=by kernel_rfl
  rw [Znt]
  refine Za e10 (Za e9 ?_)
  have hc:(List.length (ZL l):Int)=(l.length:Int):=by simp [ZL]
  have em:iop .min .i64 (List.length (ZL l):Int) 30=((min l.length 30:Nat):Int):=by
   rw [hc]
   show min (l.length:Int) 30=_
   omega
  rw [em]
  exact l2 l (min l.length 30) (by omega) (by omega)
 obtain ⟨r,e,rfl⟩:=key
 exact e
end Go.Proofs.YtlgmnddelljbmaaGreat
end
