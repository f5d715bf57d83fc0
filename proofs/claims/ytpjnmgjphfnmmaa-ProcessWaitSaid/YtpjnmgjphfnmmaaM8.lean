import Derived.Test.YtpjnmgjphfnmmaaM7
import Derived.Test.YtpjnmgjphfnmmaaFX
import Derived.Test.YtpjnmgjphfnmmaaM6
import Derived.ChangeArms
import Derived.ChangeStays
import Derived.ChangeBook
import Derived.ChangeSame
import Derived.RowKit
import Derived.ChangeOld
import GoSem.ClaimJoined
import GoSem.ClaimOpenFrom
import Derived.KernelRfl
import Derived.Test.YtpjnmgjphfnmmaaRows
import Derived.Test.YtpjnmgjphfnmmaaChecked
import Derived.JoinedOf
import Derived.JoinedAt
import Derived.RowKit3
open Option renaming some→Xa,none→Xe,map_some→Xo,bind_some→XM
open Bool renaming true→Xb,false→Xc,and_eq_true→Xs,false_eq_true→Uh
open Option.some renaming injEq→Xf
open List renaming map_cons→Xg,getElem?_eq_some_iff→Xi,mem_map→Xj,getElem?_map→Xk,mem_cons→Xl,replicate→Xm,getElem?_eq_getElem→Xp,length_map→Xq,mem_append→Xt,getElem?_append_left→Xv,getElem?_append_right→Xy,length_append→XA,getElem?_cons_zero→XB,mem_singleton→XC,all_eq_true→XE,mem_iff_getElem?→XK,map_append→XL,getElem?_cons_succ→X5,append_nil→Wc,flatten_cons→Wj,map_take→Uf,pairwise_append→Un,pairwise_cons→UK,filter_append→UL,find?_cons→UT,countP_append→U2,any_cons→U7,filter_cons_of_neg→U8,length_pos_iff→Tb,mem_of_find?_eq_some→Tg,countP_eq_zero→Tp,filter_cons_of_pos→Tu
open Nat renaming lt_or_ge→Xx,le_refl→XD
open Int renaming tmod→Uq,toNat_natCast→UI
set_option linter.unusedVariables false
set_option linter.unusedSimpArgs false
set_option linter.defProp false
namespace Go.W
section
open Go Go.AM Go.Proofs.Ytpjnmgjphfnmmaa
set_option maxRecDepth 100000
variable {rows:LL} {F:Zbq} {m:MS}
theorem place (x:Int) {n:Int} (m0:0 < n) (m1:n≤1073741824):∃ a,g9 x n=Xa a∧0≤a∧a < n:=by
 have hr:iop .rem .i64 x n=Uq x n:=rfl
 have h1:=Int.tmod_lt_of_pos x m0
 have h2 : -n < Uq x n:=by
  have:=Int.tmod_lt_of_pos (-x) m0
  rw [Int.neg_tmod] at this
  omega
 rw [ZtL,hr,Za (by omega)]
 by_cases hn:Uq x n < 0
 ·rw [if_pos (by simp [cop,hn]),ZiD (by omega) (by omega)]
  exact ⟨_,rfl,by omega,by omega⟩
 ·rw [if_neg (by simp [cop];omega)]
  exact ⟨_,rfl,by omega,by omega⟩
theorem ZiI {x n:Int} (h0:0≤x) (hn:0 < n):0≤Uq x n∧Uq x n < n:=by
 rw [Int.tmod_eq_emod_of_nonneg h0]
 exact ⟨Int.emod_nonneg _ (by omega),Int.emod_lt_of_pos _ hn⟩
theorem s12 (L:List Int) {a n:Int} (ha:0≤a∧a≤1000) (hn:0 < n):∃ v,g12 (ints L) a n=Xa (v,ints L,a+1)∧0≤v∧v < n:=by
 have hl:((ints L).length:Int)=(L.length:Int):=by simp
 have hadd:iop .add .i64 a 1=a+1:=ZiD (by omega) (by omega)
 have fin:∀ r:Int,0≤r→r≤1073741824→∃ v,(ZW ((iop .max .i64 (L.length:Int) 1)≠0)<|ZW (n≠0)<|some ((iop .rem .i64 (iop .add .i64 r (iop .mul .i64 7 (iop .quo .i64 a (iop .max .i64 (L.length:Int) 1)))) n),ints L,a+1))=Xa (v,ints L,a+1)∧0≤v∧v < n:=fun r h0 h1=>by
  have hm:iop .max .i64 (L.length:Int) 1=max (L.length:Int) 1:=rfl
  have hmp:(1:Int)≤max (L.length:Int) 1:=by omega
  have hq:0≤Int.tdiv a (max (L.length:Int) 1)∧Int.tdiv a (max (L.length:Int) 1)≤a:=by
   rw [Int.tdiv_eq_ediv_of_nonneg ha.1]
   refine ⟨Int.ediv_nonneg ha.1 (by omega),?_⟩
   exact Int.ediv_le_self _ ha.1
  have hq2:iop .quo .i64 a (max (L.length:Int) 1)=Int.tdiv a (max (L.length:Int) 1):=Ziu (by omega) (by omega)
  have hmu:iop .mul .i64 7 (Int.tdiv a (max (L.length:Int) 1))=7*Int.tdiv a (max (L.length:Int) 1):=ZtH (by omega) (by omega)
  rw [hm,Za (by omega),Za (by omega),hq2,hmu,ZiD (by omega) (by omega)]
  exact ⟨_,rfl,ZiI (by omega) hn⟩
 rw [ZsN,hl,hadd]
 by_cases h0:L.length=0
 ·rw [if_neg (by simp [cop,h0])]
  exact fin 0 (by decide) (by decide)
 ·rw [if_pos (by simp [cop];omega),Za (by omega)]
  have hi:=ZiI (x:=a) (n:=(L.length:Int)) ha.1 (by omega)
  have hr:iop .rem .i64 a (L.length:Int)=((Uq a (L.length:Int)).toNat:Int):=by show Uq a _=_;omega
  have hlt:(Uq a (L.length:Int)).toNat < L.length:=by omega
  rw [hr,Vq (Xp hlt)]
  obtain ⟨b,hb,hb0,hb1⟩:=place (L[(Uq a (L.length:Int)).toNat]) (n:=1073741824) (by decide) (by decide)
  rw [hb,XM]
  exact fin b hb0 (by omega)
structure In3 (e0:PE) (cs:List PE) (al:List Int) (n hd:Nat) (w:Bool):Prop where
 i1:e0.p.id=1
 ne:e0.p.ended=Xc
 wt:e0.p.waiting=w
 pa:e0.p.parent=0
 kid:∀ c∈cs,c.p.parent=1∧2≤c.p.id
 al:al=(cs.filter fun c=>!c.p.ended).map (·.p.id)
 cnt:hd+cs.length=n
 wa:w=Xb→(∀ c∈cs,c.p.ended=Xc)∧cs≠[]
 len:∀ c∈e0::cs,c.p.cores.length≤1
theorem ZmD {e0:PE} {cs:List PE} (h:e0.p.id=1):(e0::cs).find? (fun e=>decide (e.p.id=1))=Xa e0:=by
 rw [UT,h]
 rfl
theorem ZmF {e0:PE} {cs:List PE} (h:e0.p.id=1) (he:e0.p.ended=Xc):Zls (e0::cs) 1=Xa e0:=by
 unfold Zls
 rw [ZmD h]
 dsimp only
 rw [he]
 rfl
theorem Zp7 {e0:PE} {cs:List PE} {f:Pr→Pr} (h:e0.p.id=1) (hc:∀ c∈cs,2≤c.p.id):ZhX 1 f (e0::cs) = { e0 with p:=f e0.p } :: cs:=by
 unfold ZhX
 rw [Xg,if_pos h]
 congr 1
 conv=>rhs;rw [← List.map_id cs]
 refine List.map_congr_left fun a ha=>?_
 have:=hc a ha
 rw [if_neg (by omega)]
 rfl
theorem Zda {α:Type} {p:α→Bool} : ∀ {l:List α} {k:Nat} {c:α},(l.filter p)[k]? = Xa c→∃ pre post,l=pre++c::post∧(pre.filter p).length=k∧p c=Xb
 | [], k, c, h => by simp at h
 | a :: l, k, c, h => by
  by_cases ha:p a=Xb
  ·rw [Tu ha] at h
   cases k with
   | zero =>
    simp at h
    subst h
    exact ⟨[],l,rfl,rfl,ha⟩
   | succ k =>
    rw [X5] at h
    obtain ⟨pre,post,h1,h2,h3⟩:=Zda h
    refine ⟨a::pre,post,by rw [h1];rfl,?_,h3⟩
    rw [Tu ha,List.length_cons,h2]
  ·rw [U8 ha] at h
   obtain ⟨pre,post,h1,h2,h3⟩:=Zda h
   refine ⟨a::pre,post,by rw [h1];rfl,?_,h3⟩
   rw [U8 ha,h2]
variable {e0:PE} {cs:List PE} {al:List Int} {n hd:Nat} {w:Bool}
theorem In3.wait (h:In3 e0 cs al n hd Xc) (hs:(e0::cs).Pairwise fun a b=>a.p.id < b.p.id) (hc:cs≠[]) :
  ∃ e0' cs' a b d dn,Zbm (e0::cs) 1=(e0'::cs',a,b,d,dn,0)∧(if dn=Xb then In3 e0' cs' al n (hd+1) Xc else In3 e0' cs' al n hd Xb):=by
 unfold Zbm
 rw [ZmF h.i1 h.ne]
 dsimp only
 rw [h.wt,if_neg (by decide)]
 have hkid:=h.kid
 rw [UT,h.pa]
 simp only [show decide ((0:Int)=1)=Xc from rfl,Bool.false_and]
 cases hf:cs.find? (fun e=>decide (e.p.parent=1)&&e.p.ended) with
 | some c =>
  have hcm:=Tg hf
  have hce:c.p.ended=Xb:=by
   have:=List.find?_some hf
   rw [Xs] at this
   exact this.2
  obtain ⟨pre,post,rfl⟩:=List.append_of_mem hcm
  have h2:=(hkid c hcm).2
  have hrem:Zon c.p.id (e0::(pre++c::post))=e0::(pre++post):=by
   have:=ZcQ (pre:=e0::pre) (post:=post) (e:=c) (k:=c.p.id) hs rfl
   exact this
  refine ⟨e0,pre++post,1,c.p.id,c.p.status,Xb,by dsimp only;rw [hrem],?_⟩
  rw [if_pos rfl]
  refine ⟨h.i1,h.ne,h.wt,h.pa,fun a ha=>hkid a (by simp at ha ⊢; rcases ha with ha | ha<;>simp [ha]),?_,?_,fun hh=>(by cases hh),fun a ha=>h.len a (by simp at ha ⊢; rcases ha with ha | ha | ha<;>simp [ha])⟩
  ·rw [h.al,UL,UL,U8 (p:=fun c:PE=>!c.p.ended) (by rw [hce];decide)]
  ·have:=h.cnt
   simp at this ⊢
   omega
 | none =>
  have hne:∀ c∈cs,c.p.ended=Xc:=fun c hcm=>by
   have:=List.find?_eq_none.1 hf c hcm
   rw [(hkid c hcm).1] at this
   simpa using this
  have hany:(e0::cs).any (fun e=>decide (e.p.parent=1))=Xb:=by
   cases cs with
   | nil => exact absurd rfl hc
   | cons c cs =>
    rw [U7,U7,(hkid c (by simp)).1]
    simp
  dsimp only
  rw [if_pos hany,Zp7 h.i1 fun c hcm=>(hkid c hcm).2]
  refine ⟨_,cs,0,0,0,Xc,rfl,?_⟩
  rw [if_neg (by decide)]
  refine ⟨h.i1,h.ne,rfl,h.pa,hkid,h.al,h.cnt,fun _=>⟨hne,hc⟩,fun a ha=>?_⟩
  rcases Xl.1 ha with rfl | ha
  ·exact h.len e0 (by simp)
  ·exact h.len a (by simp [ha])
theorem Zhp {pid:Int} {es:List PE} (h:∀ e∈es,e.p.parent≠pid):∀ ks,Ye pid es ks=(es,[])
 | [] => rfl
 | k :: ks => by
  have hst:J7 pid es k=(es,[]):=by
   unfold J7
   split
   ·rename_i c hc
    rw [if_neg (h c (Tg hc))]
   ·rfl
  simp only [Ye,hst,Zhp h ks,Wc]
theorem In3.exit (h:In3 e0 cs al n hd w) (hs:(e0::cs).Pairwise fun a b=>a.p.id < b.p.id) {k:Nat} {z:Int} (hk:al[k]? = Xa z) {st:Int} (h0:0≤st) (h1:st≤255) :
  ∃ e0' cs',(if w=Xb then ZcR (e0::cs) z st=((e0'::cs',[(1,z,st)]),0)∧In3 e0' cs' (al.take k++al.drop (k+1)) n (hd+1) Xc
   else ZcR (e0::cs) z st=((e0'::cs',[]),0)∧In3 e0' cs' (al.take k++al.drop (k+1)) n hd Xc):=by
 rw [h.al,Xk] at hk
 obtain ⟨c,hc,hcz⟩:=Option.map_eq_some_iff.1 hk
 obtain ⟨pre,post,rfl,hpk,hce⟩:=Zda hc
 subst hcz
 have hen:c.p.ended=Xc:=by simpa using hce
 have hkid:=h.kid
 have hc2:=hkid c (by simp)
 have hal:al=(pre.filter fun c=>!c.p.ended).map (·.p.id)++c.p.id::(post.filter fun c=>!c.p.ended).map (·.p.id):=by
  rw [h.al,UL,Tu (p:=fun c:PE=>!c.p.ended) hce,XL,Xg]
 have hal2:al.take k++al.drop (k+1)=(pre.filter fun c=>!c.p.ended).map (·.p.id)++(post.filter fun c=>!c.p.ended).map (·.p.id):=by
  have hl:((pre.filter fun c=>!c.p.ended).map (·.p.id)).length=k:=by rw [Xq,hpk]
  rw [hal,List.take_left' hl,List.drop_append,hl,List.drop_eq_nil_of_le (by omega)]
  simp
 have hfc:(e0::(pre++c::post)).find? (fun e=>decide (e.p.id=c.p.id))=Xa c:=by
  rw [List.find?_eq_some_iff_append]
  refine ⟨by simp,e0::pre,post,rfl,fun a ha=>?_⟩
  have hs':((e0::pre)++c::post).Pairwise fun a b=>a.p.id < b.p.id:=hs
  rw [Un] at hs'
  have:=hs'.2.2 a ha c (by simp)
  simp
  omega
 have hrun:Zls (e0::(pre++c::post)) c.p.id=Xa c:=by
  unfold Zls
  rw [hfc]
  dsimp only
  rw [hen]
  rfl
 have hu:Zei c.p.id (VS st) (e0::(pre++c::post))=e0::(pre++VS st c::post):=ZeM (pre:=e0::pre) (post:=post) (e:=c) (f:=VS st) hs rfl
 have hp:∀ e∈e0::(pre++VS st c::post),e.p.parent≠c.p.id:=fun e he=>by
  rcases Xl.1 he with rfl | he
  ·rw [h.pa];omega
  ·rcases Xt.1 he with he | he
   ·rw [(hkid e (by simp [he])).1];omega
   ·rcases Xl.1 he with rfl | he
    ·show c.p.parent≠_
     rw [hc2.1];omega
    ·rw [(hkid e (by simp [he])).1];omega
 have hend:Zrp (e0::(pre++c::post)) c.p.id st=VB (e0::(pre++VS st c::post)) 1 (VS st c).p:=by
  unfold Zrp
  rw [hfc]
  dsimp only
  rw [if_neg (by omega),hu,Zhp hp,List.nil_append,hc2.1]
 have hex:ZcR (e0::(pre++c::post)) c.p.id st=(VB (e0::(pre++VS st c::post)) 1 (VS st c).p,0):=by
  unfold ZcR
  rw [hrun]
  dsimp only
  rw [if_neg (by omega),if_neg (by omega),hend]
 have hkid':∀ a∈pre++VS st c::post,a.p.parent=1∧2≤a.p.id:=fun a ha=>by
  rcases Xt.1 ha with ha | ha
  ·exact hkid a (by simp [ha])
  ·rcases Xl.1 ha with rfl | ha
   ·exact hc2
   ·exact hkid a (by simp [ha])
 have hcnt:=h.cnt
 unfold VB at hex
 rw [ZmD h.i1] at hex
 dsimp only at hex
 rw [h.wt] at hex
 cases w with
 | true =>
  rw [if_pos rfl,Zp7 h.i1 fun a ha=>(hkid' a ha).2] at hex
  have hs2:(({ e0 with p:=(fun q:Pr=>{ q with waiting:=Xc }) e0.p } :: pre)++VS st c::post).Pairwise fun a b=>a.p.id < b.p.id:=by
   have hs':((e0::pre)++c::post).Pairwise fun a b=>a.p.id < b.p.id:=hs
   rw [Un,UK,UK] at hs' ⊢
   refine ⟨hs'.1,hs'.2.1,fun a ha b hb=>?_⟩
   rcases Xl.1 ha with rfl | ha<;>rcases Xl.1 hb with rfl | hb
   ·exact hs'.2.2 e0 (by simp) c (by simp)
   ·exact hs'.2.2 e0 (by simp) b (by simp [hb])
   ·exact hs'.2.2 a (by simp [ha]) c (by simp)
   ·exact hs'.2.2 a (by simp [ha]) b (by simp [hb])
  have hrem:=ZcQ (k:=c.p.id) hs2 rfl
  refine ⟨{ e0 with p:={ e0.p with waiting:=Xc } },pre++post,?_⟩
  rw [if_pos rfl]
  refine ⟨?_,h.i1,h.ne,rfl,h.pa,fun a ha=>hkid a (by simp at ha ⊢; rcases ha with ha | ha<;>simp [ha]),?_,by simp at hcnt ⊢; omega,fun hh=>(by cases hh),fun a ha=>?_⟩
  ·rw [hex]
   have:Zon (VS st c).p.id (({ e0 with p:=(fun q:Pr=>{ q with waiting:=Xc }) e0.p } : PE)::(pre++VS st c::post))=(({ e0 with p:=(fun q:Pr=>{ q with waiting:=Xc }) e0.p } : PE)::(pre++post)):=hrem
   rw [this]
   rfl
  ·rw [hal2,UL,XL]
  ·rcases Xl.1 ha with rfl | ha
   ·exact h.len e0 (by simp)
   ·exact h.len a (by simp at ha ⊢; rcases ha with ha | ha<;>simp [ha])
 | false =>
  rw [if_neg (by decide)] at hex
  refine ⟨e0,pre++VS st c::post,?_⟩
  rw [if_neg (by decide)]
  refine ⟨hex,h.i1,h.ne,h.wt,h.pa,hkid',?_,by simp at hcnt ⊢; omega,fun hh=>(by cases hh),fun a ha=>?_⟩
  ·rw [hal2,UL,U8 (p:=fun c:PE=>!c.p.ended) (by show ¬ ((!true)=Xb);decide),XL]
  ·rcases Xl.1 ha with rfl | ha
   ·exact h.len a (by simp)
   ·rcases Xt.1 ha with ha | ha
    ·exact h.len a (by simp [ha])
    ·rcases Xl.1 ha with rfl | ha
     ·show ([] : List Int).length≤1
      simp
     ·exact h.len a (by simp [ha])
end
section
open Go Go.AM Go.Proofs.Ytpjnmgjphfnmmaa
set_option maxRecDepth 100000
variable {rows:LL} {F:Zbq} {m:MS} {e0:PE} {cs:List PE} {al:List Int} {n hd:Nat} {w:Bool}
abbrev ZeC (bs:List Bool):LL:=bs.map fun b=>[B b]
theorem Zk3 {γ:Type} {bs:List Bool} {i:Nat} {b:Bool} (h:bs[i]? = Xa b) (k:Bool→Option γ):Jn (ZeC bs) (i:Int) [.bool] k=k b:=
 Vx (l:=ZeC bs) (sh:=[.bool]) (cs:=[B b]) (r:=(b:Bool)) k (by omega) (by rw [UI,Xk,h];rfl) rfl
theorem Zn8 {e0:PE} {cs:List PE} (h:In3 e0 cs al n hd w):∀ e∈e0::cs,e.p.cores.length≤100000:=fun e he=>Nat.le_trans (h.len e he) (by decide)
theorem ZsT (h:In3 e0 cs al n hd w):al.length≤cs.length:=by
 rw [h.al,Xq]
 exact List.length_filter_le _ _
theorem z3 {x:LL} (h:ZO rows (m.frag++F)) (hm:m.Ok) (hx:Zk x = .oref (m.jm+1) 0) (he:m.es=e0::cs) (hi:In3 e0 cs al n hd w) (hn:hd=n):∃ rows',Z3 x (n:Int) (hd:Int) rows=Xa (Xb,rows'):=by
 have hc:cs = []:=by
  have:=hi.cnt
  cases cs with
  | nil => rfl
  | cons c cs => simp at this; omega
 subst hc
 have hw:w=Xc:=by
  cases w with
  | false => rfl
  | true => exact absurd rfl (hi.wa rfl).2
 subst hw
 obtain ⟨r1,F1,q1,q2,q3⟩:=s11 h hm hx 1
 have hwt:Zbm m.es 1=([e0],0,0,0,Xc,2):=by
  rw [he]
  unfold Zbm
  rw [ZmF hi.i1 hi.ne]
  dsimp only
  rw [hi.wt,if_neg (by decide),UT,hi.pa]
  simp only [show decide ((0:Int)=1)=Xc from rfl,Bool.false_and,List.find?_nil,U7,List.any_nil,hi.pa,Bool.or_false,Uh,if_false]
 rw [hwt] at q1 q2 q3
 obtain ⟨r2,F2,t1,t2⟩:=s14 q2 q3 hx (Zn8 hi)
 obtain ⟨r3,u1⟩:=s15 t2
 refine ⟨r3,?_⟩
 unfold Z3
 rw [q1,XM]
 dsimp only
 rw [if_pos (by simp [cop,hn]),if_pos (by decide),t1,XM]
 dsimp only
 rw [if_pos (by simp [cop]),u1]
 rfl
theorem ZqS {x:LL} (L:List Int) (bs:List Bool) (hn8:n≤8):∀ (t:Nat) (i hd:Nat) (w:Bool) (e0:PE) (cs:List PE) (al:List Int) (m:MS) (rows:LL) (F:Zbq) (k:Nat) (a:Int),
  In3 e0 cs al n hd w→m.es=e0::cs→ZO rows (m.frag++F)→m.Ok→Zk x = .oref (m.jm+1) 0→2*(n-hd)+al.length≤t+(if w=Xb then 1 else 0)→i+t≤100→t < k→0≤a→a≤(i:Int)→
  ∃ rows',Zr4 k (ZeC bs) x (n:Int) (ints al) (hd:Int) w (i:Int) (ints L) a rows=Xa (Xb,rows'):=by
 intro t
 induction t with
 | zero =>
  intro i hd w e0 cs al m rows F k a hi he h hm hx hmu hit hk ha0 ha1
  obtain ⟨k',rfl⟩:∃ k',k=k'+1:=⟨k-1,by omega⟩
  have hcnt:=hi.cnt
  have hhd:hd=n:=by
   cases w with
   | false => simp at hmu; omega
   | true => simp at hmu; omega
  obtain ⟨r,hr⟩:=z3 h hm hx he hi hhd
  refine ⟨r,?_⟩
  rw [ZiJ,if_neg (by simp [cop,hhd])]
  exact hr
 | succ t ih =>
  intro i hd w e0 cs al m rows F k a hi he h hm hx hmu hit hk ha0 ha1
  obtain ⟨k',rfl⟩:∃ k',k=k'+1:=⟨k-1,by omega⟩
  have hcnt:=hi.cnt
  have hall:=ZsT hi
  by_cases hhd:hd=n
  ·obtain ⟨r,hr⟩:=z3 h hm hx he hi hhd
   refine ⟨r,?_⟩
   rw [ZiJ,if_neg (by simp [cop,hhd])]
   exact hr
  have hcs:cs≠[]:=fun hh=>by rw [hh] at hcnt;simp at hcnt;omega
  have hsrt:=hm.srt
  rw [he] at hsrt
  have hi1:iop .add .i64 (i:Int) 1=((i+1:Nat):Int):=Zqx (by omega)
  have hh1:iop .add .i64 (hd:Int) 1=((hd+1:Nat):Int):=Zqx (by omega)
  have hll:((ints al).length:Int)=(al.length:Int):=by simp
  -- one ends
  have hX:al≠[]→∃ rows',X3 k' (ZeC bs) x (n:Int) (ints al) (hd:Int) w (i:Int) (ints L) a rows=Xa (Xb,rows'):=fun hal=>by
   have hal0:0 < al.length:=Tb.2 hal
   unfold X3
   rw [hll,if_neg (by simp [cop,hal])]
   obtain ⟨v,hv,hv0,hv1⟩:=s12 L (a:=a) (n:=(al.length:Int)) ⟨ha0,by omega⟩ (by omega)
   obtain ⟨vk,rfl⟩:∃ vk:Nat,v=(vk:Int):=⟨v.toNat,by omega⟩
   have hvk:vk < al.length:=by omega
   rw [hv,XM]
   dsimp only
   have hz:=Xp hvk
   rw [Vq hz]
   obtain ⟨r1,F1,q1,q2,q3⟩:=s13 h hm hx al[vk] (vk:Int)
   obtain ⟨e0',cs',hst⟩:=hi.exit hsrt hz (st:=(vk:Int)) (by omega) (by omega)
   rw [he] at q1 q2 q3
   have hla:(al.take vk++al.drop (vk+1)).length+1=al.length:=by simp;omega
   have hva:iop .add .i64 (vk:Int) 1=((vk+1:Nat):Int):=Zqx (by omega)
   have hD:∀ (hd':Nat) (rr:LL×Int×LL),In3 e0' cs' (al.take vk++al.drop (vk+1)) n hd' Xc→ZO rr.2.2 (({ m with es:=e0'::cs' } : MS).frag++(F1++F))→({ m with es:=e0'::cs' } : MS).Ok→2*(n-hd')+al.length≤t+1→
     ∃ rows',D3 k' (ZeC bs) x (n:Int) (ints al) (hd':Int) (i:Int) ((vk:Int),ints L,a+1) rr=Xa (Xb,rows'):=fun hd' rr g1 g2 g3 g4=>by
    unfold D3
    dsimp only
    have htk:List.take (vk:Int).toNat (ints al)++List.drop (((vk+1:Nat):Int)).toNat (ints al)=ints (al.take vk++al.drop (vk+1)):=by
     rw [UI,UI]
     simp only [ints,XL,Uf,List.map_drop]
    rw [hva,hi1,htk,hll,Za (by omega),Za (by omega),Za (by unfold Zaz ZZ;simp;omega),Za (by omega),Za (by omega),Za (by unfold Zaz ZZ;simp;omega)]
    exact ih (i+1) hd' Xc e0' cs' _ _ _ _ k' (a+1) g1 rfl g2 g3 hx (by simp only [Uh,if_false];omega) (by omega) (by omega) (by omega) (by omega)
   rw [q1,XM]
   cases w with
   | true =>
    rw [if_pos rfl] at hst
    obtain ⟨hex,hin⟩:=hst
    rw [hex] at q2 q3 ⊢
    dsimp only
    rw [if_neg (by decide),if_neg (by simp [cop,K8])]
    unfold A3
    dsimp only
    rw [if_pos (by simp [cop,K8]),if_neg (by decide)]
    unfold B3
    dsimp only
    rw [if_pos rfl,ZgZ,Vq hz]
    dsimp only
    rw [if_neg (by simp [cop])]
    unfold C3
    rw [if_pos rfl,hh1]
    exact hD (hd+1) _ hin q2 q3 (by simp only [if_true] at hmu;omega)
   | false =>
    rw [if_neg (by decide)] at hst
    obtain ⟨hex,hin⟩:=hst
    rw [hex] at q2 q3 ⊢
    dsimp only
    rw [if_neg (by decide),if_pos (by simp [cop,K8]),if_neg (by decide)]
    unfold A3
    dsimp only
    rw [if_neg (by simp [cop,K8])]
    unfold B3
    dsimp only
    rw [if_neg (by decide)]
    unfold C3
    rw [if_neg (by decide)]
    exact hD hd _ hin q2 q3 (by simp only [Uh,if_false] at hmu;omega)
  -- it waits
  have hW:∃ rows',W3 k' (ZeC bs) x (n:Int) (ints al) (hd:Int) w (i:Int) (ints L) a rows=Xa (Xb,rows'):=by
   unfold W3
   cases w with
   | true =>
    rw [if_neg (by decide)]
    refine hX fun hh=>?_
    obtain ⟨h1,h2⟩:=hi.wa rfl
    have:=hi.al
    rw [List.filter_eq_self.2 (fun c hc=>by rw [h1 c hc];rfl)] at this
    rw [this] at hh
    exact h2 (List.map_eq_nil_iff.1 hh)
   | false =>
    rw [if_pos (by rfl)]
    obtain ⟨r1,F1,q1,q2,q3⟩:=s11 h hm hx 1
    obtain ⟨e0',cs',b1,b2,b3,dn,hwt,hst⟩:=hi.wait hsrt hcs
    rw [he,hwt] at q1 q2 q3
    rw [q1,XM]
    dsimp only
    rw [if_neg (by decide),hh1,hi1]
    simp only [Uh,if_false] at hmu
    cases dn with
    | true =>
     rw [if_pos rfl] at hst ⊢
     exact ih (i+1) (hd+1) Xc e0' cs' al _ _ _ k' a hst rfl q2 q3 hx (by simp only [Uh,if_false];omega) (by omega) (by omega) ha0 (by omega)
    | false =>
     rw [if_neg (by decide)] at hst ⊢
     exact ih (i+1) hd Xb e0' cs' al _ _ _ k' a hst rfl q2 q3 hx (by simp only [if_true];omega) (by omega) (by omega) ha0 (by omega)
  have hY:∃ rows',Y3 k' (ZeC bs) x (n:Int) (ints al) (hd:Int) w (i:Int) (ints L) a rows=Xa (Xb,rows'):=by
   unfold Y3
   rw [hll]
   by_cases h0:al = []
   ·rw [if_pos (by simp [cop,h0])]
    exact hW
   ·rw [if_neg (by simp [cop,h0])]
    exact hX h0
  rw [ZiJ,if_pos (by simp [cop];omega),if_pos (by simp [cop];omega)]
  have hbl:((ZeC bs).length:Int)=(bs.length:Int):=by simp
  rw [hbl]
  by_cases hb:i < bs.length
  ·rw [if_pos (by simp [cop];omega),Zk3 (Xp hb)]
   split
   ·exact hW
   ·exact hY
  ·rw [if_neg (by simp [cop];omega)]
   exact hY
theorem ZjQ {x:LL} (L:List Int) (bs:List Bool) (hn8:n≤8):∀ (r i:Nat) (e0:PE) (cs:List PE) (al:List Int) (m:MS) (rows:LL) (F:Zbq) (k:Nat),
  i+r=n→In3 e0 cs al i 0 Xc→al.length=i→m.es=e0::cs→m.last=(i:Int)+1→ZO rows (m.frag++F)→m.Ok→Zk x = .oref (m.jm+1) 0→r < k→
  ∃ rows',Ztm k (ints L) (ZeC bs) x (n:Int) (ints al) (i:Int) rows=Xa (Xb,rows')
 | 0, i, e0, cs, al, m, rows, F, k, hr, hi, hal, he, hl, h, hm, hx, hk => by
  obtain ⟨k',rfl⟩:∃ k',k=k'+1:=⟨k-1,by omega⟩
  have hin:i=n:=by omega
  subst hin
  rw [Zot,if_neg (by simp [cop])]
  exact ZqS L bs hn8 24 0 0 Xc e0 cs al m rows F ZeD 0 hi he h hm hx (by simp;omega) (by omega) (by unfold ZeD;omega) (by decide) (by decide)
 | r + 1, i, e0, cs, al, m, rows, F, k, hr, hi, hal, he, hl, h, hm, hx, hk => by
  obtain ⟨k',rfl⟩:∃ k',k=k'+1:=⟨k-1,by omega⟩
  have hcnt:=hi.cnt
  have hrem:iop .rem .i64 (i:Int) 3=Uq (i:Int) 3:=rfl
  have hcore:=ZiI (x:=(i:Int)) (n:=3) (by omega) (by decide)
  have hn:g28 ⟨#[99,104,105,108,100]⟩=Xa Xb:=by rw [s28 _ (by decide),ZkQ]
  have hsp:Zku m.es 1 (Uq (i:Int) 3) Xb=0:=by
   unfold Zku
   rw [he,ZmF hi.i1 hi.ne]
   dsimp only
   rw [if_pos rfl,if_pos (by omega),if_neg (by simp;omega)]
  obtain ⟨r1,e',q1,q2,q3,q4⟩:=s10 h hm hx hn hsp (by omega)
  rw [Zot,if_pos (by simp [cop];omega),Za (by decide),hrem,q1,XM]
  dsimp only
  rw [if_neg (by decide),Za (by unfold Zaz ZZ;simp;omega),Zqx (by omega)]
  have hnew:ints al++(E0++[[AV.val (.int .i64 (m.last+1))]])=ints (al++[m.last+1]):=by simp [ints]
  rw [hnew]
  have hes:m.es++[e']=e0::(cs++[e']):=by rw [he];rfl
  have hin:In3 e0 (cs++[e']) (al++[m.last+1]) (i+1) 0 Xc:=by
   refine ⟨hi.i1,hi.ne,hi.wt,hi.pa,fun c hc=>?_,?_,by simp;omega,fun hh=>(by cases hh),fun c hc=>?_⟩
   ·rcases Xt.1 hc with hc | hc
    ·exact hi.kid c hc
    ·rw [XC] at hc
     rw [hc,q2]
     exact ⟨rfl,by show (2:Int)≤m.last+1;omega⟩
   ·rw [UL,XL,← hi.al,Tu (p:=fun c:PE=>!c.p.ended) (by rw [q2];rfl),List.filter_nil,Xg,List.map_nil,q2]
   ·rcases Xl.1 hc with rfl | hc
    ·exact hi.len c (by simp)
    ·rcases Xt.1 hc with hc | hc
     ·exact hi.len c (by simp [hc])
     ·rw [XC] at hc
      rw [hc,q2]
      exact XD _
  exact ZjQ L bs hn8 r (i+1) e0 (cs++[e']) (al++[m.last+1]) _ r1 F k' (by omega) hin (by simp [hal]) hes (by show m.last+1=_;omega) q3 q4 hx (by omega)
theorem s3 (z:Int) (L:List Int) (bs:List Bool):∃ rows',g3 z (ints L) (ZeC bs) E0=Xa (Xb,rows'):=by
 have h:ZO E0 []:=⟨List.nodup_nil,fun p hp=>by cases hp⟩
 obtain ⟨m,r1,q1,q2,q3,q4,q5⟩:=s8 (z:=0) (by decide) h
 obtain ⟨j0,c0,hes⟩:=ZmV q4
 have hx:Zk [[.oref (m.jm+1) 0]] = .oref (m.jm+1) 0:=rfl
 obtain ⟨a,ha,ha0,ha1⟩:=place z (n:=8) (by decide) (by decide)
 obtain ⟨an,rfl⟩:∃ an:Nat,a=(an:Int):=⟨a.toNat,by omega⟩
 rw [ZtP,q1,XM]
 dsimp only
 rw [if_neg (by decide),Za (by simp [Zf,Zk,JC,okL]),if_neg (by simp [Zf,Zk,JC,okL,cop]),ha,XM,ZiD (by omega) (by omega)]
 have e1:(1:Int)+(an:Int)=((an+1:Nat):Int):=by omega
 rw [e1]
 exact ZjQ L bs (by omega) (an+1) 0 ⟨j0,c0,ZpG 0⟩ [] [] m r1 [] ZeD (by omega) ⟨rfl,rfl,rfl,rfl,fun c hc=>by simp at hc,rfl,rfl,fun hh=>(by cases hh),fun c hc=>by rw [XC] at hc;rw [hc];exact XD _⟩ rfl hes (by rw [q5];rfl) q2 q3 hx (by unfold ZeD;omega)
end
end Go.W
namespace Go.AM
def TyR (P:Program):Nat→TypeId→List AV→Prop
 | 0, _, _ => False
 | d + 1, T, cs =>
  match P.underlying T with
  | some (.int k) => ∃ z, cs = [.val (.int k z)] ∧ (Lit.int k z).wf = Xb
  | some .bool => ∃ b, cs = [.val (.bool b)]
  | some .string => ∃ s, cs = [.val (.string s)]
  | some (.slice e) => ∃ xs : List (List AV), cs = [.slice Xc (P.cellsOf e) xs] ∧ xs.length ≤ maxLen ∧ ∀ x ∈ xs, TyR P d e x
  | some (.struct fs) => ∃ parts : List (List AV), cs = parts.flatten ∧ parts.length = fs.size ∧ ∀ (i : Nat) (f : Field) (p : List AV), fs[i]? = Xa f → parts[i]? = Xa p → TyR P d f.type p
  | _ => False
def Zck (P:Program):Nat→TypeId→Bool
 | 0, _ => Xc
 | d + 1, T =>
  match P.underlying T with
  | some (.int _) => Xb
  | some .bool => Xb
  | some .string => Xb
  | some (.slice e) => Zck P d e && decide (0 < P.cellsOf e)
  | some (.struct fs) => (fs.toList.all fun f => Zck P d f.type) && decide (P.cellsOf T = (fs.toList.map fun f => P.cellsOf f.type).sum) &&
    (fs.toList.zipIdx.all fun p=>decide (p.1.offset=((fs.toList.take p.2).map fun f=>P.cellsOf f.type).sum))
  | _ => Xc
def K2 (w:World):Lm:=⟨fun b=>match w.heap[b]? with | some (.cells c _ _)=>c.size | _=>0,fun _=>Xe⟩
theorem Zm0 {w:World} {b o:Nat} {u:Value} (h:w.cell? ⟨b,o,Xe⟩=Xa u):o < K2 w b:=by
 unfold World.cell? at h
 unfold K2
 dsimp only
 split at h
 ·rename_i c t fr hc
  have h':c[o]? = Xa u:=by simpa using h
  have hc':w.heap[b]? = Xa (.cells c t fr):=hc
  rw [hc']
  exact (Array.getElem?_eq_some_iff.1 h').1
 ·cases h
theorem JJ.flat {w:World} {lim:Lm} : ∀ (aZ:List (List AV)) (us:List (List Value)),aZ.length=us.length→(∀ (i:Nat) (a:List AV) (u:List Value),aZ[i]? = Xa a→us[i]? = Xa u→JJ w lim a u)→JJ w lim aZ.flatten us.flatten
 | [], [], _, _ => JJ.nil w lim
 | [], _ :: _, h, _ => by simp at h
 | _ :: _, [], h, _ => by simp at h
 | a :: aZ, u :: us, h, hr => by
  have h1:=hr 0 a u rfl rfl
  have h2:=JJ.flat aZ us (by simpa using h) fun i a' u' ha hu=>hr (i+1) a' u' (by simpa using ha) (by simpa using hu)
  refine ⟨by simp [h1.1,h2.1],fun c hc=>?_,fun i c v hc hv=>?_⟩
  ·rw [Wj,Xt] at hc
   rcases hc with hc | hc
   ·exact h1.2.1 c hc
   ·exact h2.2.1 c hc
  ·rw [Wj] at hc hv
   by_cases hi:i < a.length
   ·rw [Xv hi] at hc
    rw [Xv (by rw [← h1.1];exact hi)] at hv
    exact h1.2.2 i c v hc hv
   ·rw [Xy (by omega)] at hc
    rw [Xy (by rw [← h1.1];omega),← h1.1] at hv
    exact h2.2.2 _ c v hc hv
theorem Zqf {α:Type} : ∀ (ns:List Nat) (cs:List α),cs.length=ns.sum→∃ ps:List (List α),ps.length=ns.length∧ps.flatten=cs∧∀ (i:Nat) (n:Nat),ns[i]? = Xa n→ps[i]? = Xa ((cs.drop (ns.take i).sum).take n)
 | [], cs, h => ⟨[], rfl, by simp at h; simp [h], by simp⟩
 | n :: ns, cs, h => by
  obtain ⟨ps,h1,h2,h3⟩:=Zqf ns (cs.drop n) (by simp only [List.sum_cons] at h;simp;omega)
  refine ⟨cs.take n::ps,by simp [h1],by rw [Wj,h2,List.take_append_drop],fun i m hi=>?_⟩
  cases i with
  | zero => simp at hi; subst hi; simp
  | succ i =>
   have:=h3 i m (by simpa using hi)
   simp only [X5,this,List.take_succ_cons,List.sum_cons,List.drop_drop]
theorem Zax {β:Type} {Q:Nat→β→Prop} : ∀ (n:Nat),(∀ i,i < n→∃ b,Q i b)→∃ l:List β,l.length=n∧∀ (i:Nat) (b:β),l[i]? = Xa b→Q i b
 | 0, _ => ⟨[], rfl, by simp⟩
 | n + 1, h => by
  obtain ⟨l,h1,h2⟩:=Zax n fun i hi=>h i (by omega)
  obtain ⟨b,hb⟩:=h n (by omega)
  refine ⟨l++[b],by simp [h1],fun i c hc=>?_⟩
  by_cases hi:i < l.length
  ·rw [Xv hi] at hc
   exact h2 i c hc
  ·rw [Xy (by omega)] at hc
   have h0:i-l.length=0:=by
    have:=(Xi.1 hc).1
    simp at this
    omega
   rw [h0] at hc
   simp only [XB,Xf] at hc
   subst hc
   have:i=n:=by omega
   rw [this]
   exact hb
theorem ZeP {s:Nat} {cell:Nat→Option Value} : ∀ (l:List (List Value)) (o:Nat),(∀ (i:Nat) (us:List Value),l[i]? = Xa us→us.length=s∧∀ (k:Nat) (u:Value),us[k]? = Xa u→cell (o+i*s+k)=Xa u)→
  ∀ (j:Nat) (u:Value),l.flatten[j]? = Xa u→cell (o+j)=Xa u
 | [], o, _, j, u, h => by simp at h
 | us :: l, o, h, j, u, hj => by
  obtain ⟨h1,h2⟩:=h 0 us rfl
  rw [Wj] at hj
  by_cases hlt:j < us.length
  ·rw [Xv hlt] at hj
   have:=h2 j u hj
   simpa using this
  ·rw [Xy (by omega)] at hj
   have:=ZeP l (o+s) (fun i us' hi=>by
    obtain ⟨g1,g2⟩:=h (i+1) us' (by simpa using hi)
    refine ⟨g1,fun k u' hk=>?_⟩
    have:=g2 k u' hk
    rw [Nat.add_mul,Nat.one_mul] at this
    rw [show o+s+i*s+k=o+(i*s+s)+k by omega]
    exact this) (j-us.length) u hj
   rw [show o+s+(j-us.length)=o+j by omega] at this
   exact this
theorem ZkZ {H:Type} {f:Func} {s:ChangeSpec} {apart fresh handsOn again:Bool} {W W':World} {args:Array Value} {v:Value} {ds gs:List (DataW H)} {before pa:List MemPlace} {P:Program} {enc:TypeId×Value→H}
  (hW:DataW.Whole enc P f.params.toList s.vars apart W args.toList ds gs before)
  (hres:∀ (b:Nat) (sp:Nat→Bool) (hd:Bool),DataW.TrodAll enc P W' b sp hd f.resultTypes.toList (v.resultList f.resultTypes.size) (s.fn H (ds++gs)).results [])
  (hargs:∀ sp:Nat→Bool,(∀ p∈before,sp p.block=Xb)→DataW.TrodAll enc P W' 0 sp Xb f.params.toList args.toList (s.fn H (ds++gs)).args pa)
  (hvars:∀ sp:Nat→Bool,(∀ p∈before,sp p.block=Xb)→DataW.TrodVars enc P W' sp s.vars (s.fn H (ds++gs)).vars [])
  (hps:before=pa++[]) (hk:W.keptBut W' (·∈before)) (hfz:∀ a:Addr,a.block < W.heap.size→W'.frozen? a=W.frozen? a)
  (hok:∀ (j:Nat) (t:TypeId) (r:Value),f.resultTypes[j]? = Xa t→(v.resultList f.resultTypes.size)[j]? = Xa r→Value.okWide P W' .any 0 t r) :
  s.post enc P f apart fresh handsOn again W args v W':=by
 have hin:∀ p∈before,p.block < W.heap.size:=fun p hp=>hW.lt p hp
 have hdec:∀ p∈before,(fun b=>decide (b < W.heap.size)) p.block=Xb:=fun p hp=>decide_eq_true (hin p hp)
 refine ⟨ds,gs,before,[],pa,[],hW,hres _ _ _,hargs _ hdec,hvars _ hdec,World.keptBut_mono (fun p hp=>⟨hp,?_⟩) hk,fun _=>?_⟩
 ·refine Or.inr (Or.inl ?_)
  rwa [hps,Wc] at hp
 ·have hWp:=hW
  obtain ⟨_,_,_,_,_,hz,hn⟩:=hWp
  refine ⟨hok,_,_,([]++pa)++[],⟨[]++pa,[],ChangeShapes.trodAll_append (hargs _ fun _ _=>rfl) (hres _ _ _),hvars _ fun _ _=>rfl,rfl,?_,?_⟩,?_⟩
  ·intro b off hp
   have hmem:MemPlace.cell b off∈before:=by rw [hps];simpa using hp
   rw [hfz _ (hin _ hmem)]
   exact hz b off hmem
  ·intro ha
   have h1:=hn ha
   rw [hps] at h1
   simpa using h1
  ·intro p hp _
   rw [hps]
   simpa using hp
section
variable {P:Program} {H:Type} {enc:TypeId×Value→H} {w:World} {sp:Nat→Bool} {held:Bool}
theorem ZiK:∀ (d n:Nat) (T:TypeId) (cs:List Value) (x:DataW H×List MemPlace),Zck P d T=Xb→DataW.trod enc P w 0 sp held n T cs=Xa x→∃ avs,TyR P d T avs∧JJ w (K2 w) avs cs
 | 0, n, T, cs, x, hf, _ => by simp [Zck] at hf
 | d + 1, n, T, cs, x, hf, h => by
  simp only [Zck] at hf
  split at hf
  ·rename_i k hk
   obtain ⟨z,rfl,_,hw⟩:=DataW.trod_int hk h
   refine ⟨[.val (.int k z)],?_,rfl,by simp [AV.isCell],fun i c u hc hu=>?_⟩
   ·simp only [TyR,hk];exact ⟨z,rfl,hw⟩
   ·cases i with
    | zero => simp at hc hu; subst hc; subst hu; exact .val rfl
    | succ i => simp at hc
  ·rename_i hk
   obtain ⟨b,rfl,_⟩:=DataW.trod_bool hk h
   refine ⟨[.val (.bool b)],?_,rfl,by simp [AV.isCell],fun i c u hc hu=>?_⟩
   ·simp only [TyR,hk];exact ⟨b,rfl⟩
   ·cases i with
    | zero => simp at hc hu; subst hc; subst hu; exact .val rfl
    | succ i => simp at hc
  ·rename_i hk
   obtain ⟨s,rfl,_⟩:=DataW.trod_string hk h
   refine ⟨[.val (.string s)],?_,rfl,by simp [AV.isCell],fun i c u hc hu=>?_⟩
   ·simp only [TyR,hk];exact ⟨s,rfl⟩
   ·cases i with
    | zero => simp at hc hu; subst hc; subst hu; exact .val rfl
    | succ i => simp at hc
  ·rename_i e hk
   simp only [Xs,decide_eq_true_eq] at hf
   rcases DataW.trod_slice hk h with ⟨rfl,_⟩ | ⟨a,len,cap,YP,rest,m,_,rfl,_,_,hlc,hcm,hel,hcells,_,_⟩
   ·refine ⟨[.slice Xc (P.cellsOf e) []],?_,rfl,by simp [AV.isCell],fun i c u hc hu=>?_⟩
    ·simp only [TyR,hk];exact ⟨[],rfl,by simp,by simp⟩
    ·cases i with
     | zero => simp at hc hu; subst hc; subst hu; exact .sliceN
     | succ i => simp at hc
   ·obtain ⟨l,hl1,hl2⟩:=Zax (Q:=fun i (p:List Value×List AV)=>w.cells? 0 (a.add (i*P.cellsOf e)) (P.cellsOf e)=Xa p.1∧TyR P d e p.2∧JJ w (K2 w) p.2 p.1) len fun i hi=>by
     have h1:=hcells i hi
     obtain ⟨y,hy⟩:∃ y,YP[i]? = Xa y:=⟨_,Xp (by omega)⟩
     rw [hy,Option.bind_eq_some_iff] at h1
     obtain ⟨us,h2,h3⟩:=h1
     obtain ⟨avs,h4,h5⟩:=ZiK d m e us y hf.1 h3
     exact ⟨(us,avs),h2,h4,h5⟩
    have hall:∀ p∈l,TyR P d e p.2∧JJ w (K2 w) p.2 p.1∧p.1.length=P.cellsOf e:=by
     intro p hp
     obtain ⟨i,hi⟩:=XK.1 hp
     obtain ⟨g1,g2,g3⟩:=hl2 i p hi
     exact ⟨g2,g3,(World.cells?_some g1).2.1⟩
    refine ⟨[.slice Xc (P.cellsOf e) (l.map (·.2))],?_,rfl,by simp [AV.isCell],fun i c u hc hu=>?_⟩
    ·simp only [TyR,hk]
     refine ⟨_,rfl,by simp;omega,fun y hy=>?_⟩
     obtain ⟨p,hp,rfl⟩:=Xj.1 hy
     exact (hall p hp).1
    ·cases i with
     | succ i => simp at hc
     | zero =>
      simp only [XB,Xf] at hc hu
      subst hc
      subst hu
      cases l with
      | nil =>
       have:len=0:=by simpa using hl1.symm
       subst this
       exact .sliceE (fun h=>by cases h)
      | cons p l' =>
       have hcell:∀ (j:Nat) (u:Value),((p::l').map (·.1)).flatten[j]? = Xa u→w.cell? ⟨a.block,a.off+j,Xe⟩=Xa u:=by
        refine ZeP (s:=P.cellsOf e) (cell:=fun o=>w.cell? ⟨a.block,o,Xe⟩) _ a.off fun i us hi=>?_
        rw [Xk] at hi
        cases hpi:(p::l')[i]? with
        | none => simp [hpi] at hi
        | some q =>
         simp only [hpi,Xo,Xf] at hi
         subst hi
         obtain ⟨g1,_,_⟩:=hl2 i q hpi
         obtain ⟨_,k2,k3⟩:=World.cells?_some g1
         refine ⟨k2,fun k u hu=>?_⟩
         have hk':k < P.cellsOf e:=by rw [← k2];exact (Xi.1 hu).1
         have:=k3 k hk'
         rw [hu] at this
         have hblk:((a.add (i*P.cellsOf e)).add k).block=a.block∧((a.add (i*P.cellsOf e)).add k).off=a.off+i*P.cellsOf e+k:=by
          unfold Addr.add
          split<;>split<;>simp_all
         have hspot:((a.add (i*P.cellsOf e)).add k).spot=Xe:=by
          unfold World.cell? at this
          split at this
          ·split at this
           ·cases this
           ·rename_i hs;simpa using hs
          ·cases this
         have heq:(a.add (i*P.cellsOf e)).add k=⟨a.block,a.off+i*P.cellsOf e+k,Xe⟩:=by
          rw [← hblk.1,← hblk.2,← hspot]
         rw [heq] at this
         exact this
       have hspot:a.spot=Xe:=by
        obtain ⟨g1,_,_⟩:=hl2 0 p rfl
        obtain ⟨_,k2,k3⟩:=World.cells?_some g1
        have:=k3 0 hf.2
        obtain ⟨u,hu⟩:∃ u,p.1[0]? = Xa u:=⟨_,Xp (by rw [k2];exact hf.2)⟩
        rw [hu] at this
        have ha:(a.add (0*P.cellsOf e)).add 0=a:=by simp [Addr.add]
        rw [ha] at this
        unfold World.cell? at this
        split at this
        ·split at this
         ·cases this
         ·rename_i hs;simpa using hs
        ·cases this
       have ha:a=⟨a.block,a.off,Xe⟩:=by rw [← hspot]
       have hlen:((p::l').map (·.2)).length=len:=by rw [Xq];exact hl1
       rw [ha,← hlen]
       have hrel:JJ w (K2 w) ((p::l').map (·.2)).flatten ((p::l').map (·.1)).flatten:=by
        refine JJ.flat _ _ (by simp) fun i x us hx hus=>?_
        rw [Xk] at hx hus
        cases hpi:(p::l')[i]? with
        | none => simp [hpi] at hx
        | some q =>
         simp only [hpi,Xo,Xf] at hx hus
         subst hx
         subst hus
         exact (hl2 i q hpi).2.2
       have hsz:∀ x∈(p::l').map (·.2),x.length=P.cellsOf e:=by
        intro x hx
        obtain ⟨q,hq,rfl⟩:=Xj.1 hx
        obtain ⟨_,g2,g3⟩:=hall q hq
        rw [g2.1,g3]
       refine .sliceC (us:=((p::l').map (·.1)).flatten) hsz (fun x hx=>?_) (fun h=>by cases h) (by rw [hlen];exact hlc) (fun hne=>?_) ?_ hcell hrel.2.2
       ·obtain ⟨q,hq,rfl⟩:=Xj.1 hx
        exact (hall q hq).2.1.2.1
       ·have hpos:0 < (((p::l').map (·.1)).flatten).length:=Tb.2 hne
        have hlast:=hcell ((((p::l').map (·.1)).flatten).length-1) _ (Xp (by omega))
        have:=Zm0 hlast
        omega
       ·rw [← hrel.1,Zg _ _ hsz]
  ·rename_i fs hk
   simp only [Xs,decide_eq_true_eq,XE] at hf
   obtain ⟨⟨h1,h2⟩,h3⟩:=hf
   obtain ⟨xs,m,_,_,hlen,hxl,hparts⟩:=DataW.trod_struct hk h
   obtain ⟨ps,q1,q2,q3⟩:=Zqf (fs.toList.map fun f=>P.cellsOf f.type) cs (by rw [hlen,h2])
   have hps:ps.length=fs.size:=by rw [q1];simp
   obtain ⟨l,hl1,hl2⟩:=Zax (Q:=fun i (avs:List AV)=>∃ (f:Field) (us:List Value),fs[i]? = Xa f∧ps[i]? = Xa us∧TyR P d f.type avs∧JJ w (K2 w) avs us) fs.size fun i hi=>by
    have hfi:fs[i]? = Xa fs[i]:=Array.getElem?_eq_getElem hi
    have hn:(fs.toList.map fun f=>P.cellsOf f.type)[i]? = Xa (P.cellsOf fs[i].type):=by simp [hi]
    have h4:=q3 i _ hn
    have h5:=hparts i _ hfi
    have hoff:=h3 (fs[i],i) (by rw [List.mem_zipIdx_iff_getElem?];simp [hi])
    simp only at hoff
    rw [hoff,Uf] at h5
    obtain ⟨y,hy⟩:∃ y,xs[i]? = Xa y:=⟨_,Xp (by omega)⟩
    rw [hy] at h5
    obtain ⟨avs,h6,h7⟩:=ZiK d m _ _ y (h1 fs[i] (by simp)) h5
    exact ⟨avs,fs[i],_,hfi,h4,h6,h7⟩
   refine ⟨l.flatten,?_,?_⟩
   ·simp only [TyR,hk]
    refine ⟨l,rfl,hl1,fun i f p hf hp=>?_⟩
    obtain ⟨f',us,g1,g2,g3,g4⟩:=hl2 i p hp
    rw [hf] at g1
    cases g1
    exact g3
   ·rw [← q2]
    refine JJ.flat _ _ (by rw [hl1,hps]) fun i avs us ha hu=>?_
    obtain ⟨f',us',g1,g2,g3,g4⟩:=hl2 i avs ha
    rw [hu] at g2
    cases g2
    exact g4
  ·cases hf
def ZbU (P:Program) (d:Nat) (T:TypeId) (x:AV):Prop:=
 match P.underlying T with
 | some (.struct _) => ∃ cs, x = .agg cs ∧ TyR P d T cs
 | _ => x.isCell = Xb ∧ TyR P d T [x]
theorem ZoR {lim:Lm} {avs:List AV} {v:Value} (h:JJ w lim avs [v]):∃ x,avs = [x]∧x.isCell=Xb∧Rep w lim x v:=by
 obtain ⟨x,rfl⟩:=List.length_eq_one_iff.1 (by simpa using h.1:avs.length=1)
 exact ⟨x,rfl,h.2.1 x (by simp),h.2.2 0 x v rfl rfl⟩
theorem Zo2 {d:Nat} {T:TypeId} {v:Value} {x:DataW H} {ps:List MemPlace} {r:Reach} {base:Nat} (hf:Zck P d T=Xb) (hok:Value.okWide P w r base T v)
  (h:DataW.Trod enc P w 0 sp held T v x ps):∃ y,ZbU P d T y∧∀ X σ k,ZQ P w (K2 w) X σ k y v:=by
 obtain ⟨n,h⟩:=h
 obtain ⟨avs,h1,h2⟩:=ZiK d n T _ _ hf h
 cases d with
 | zero => simp [Zck] at hf
 | succ d =>
  have one:v.cells.toList = [v]→(∀ fs,P.underlying T≠Xa (.struct fs))→∃ y,ZbU P (d+1) T y∧∀ X σ k,ZQ P w (K2 w) X σ k y v:=by
   intro hv hns
   rw [hv] at h2
   obtain ⟨y,rfl,h3,h4⟩:=ZoR h2
   refine ⟨y,?_,fun X σ k=>(Kc h3 h4).2⟩
   unfold ZbU
   split
   ·rename_i fs hfs;exact (hns fs hfs).elim
   ·exact ⟨h3,h1⟩
  simp only [Zck] at hf
  split at hf
  ·rename_i kd hk
   obtain ⟨z,hz,_⟩:=DataW.trod_int hk h
   refine one ?_ (by rw [hk];simp)
   simp only [Value.okWide,hk,Cell.okWide] at hok
   cases v<;>simp_all [Cell.ok,Value.cells]
  ·rename_i hk
   refine one ?_ (by rw [hk];simp)
   simp only [Value.okWide,hk,Cell.okWide] at hok
   cases v<;>simp_all [Cell.ok,Value.cells]
  ·rename_i hk
   refine one ?_ (by rw [hk];simp)
   simp only [Value.okWide,hk,Cell.okWide] at hok
   cases v<;>simp_all [Cell.ok,Value.cells]
  ·rename_i e hk
   refine one ?_ (by rw [hk];simp)
   simp only [Value.okWide,hk,Cell.okWide] at hok
   cases v<;>simp_all [Cell.ok,Value.cells]
  ·rename_i fs hk
   simp only [Value.okWide,hk] at hok
   obtain ⟨cs,rfl,_,_⟩:=hok
   refine ⟨.agg avs,?_,?_⟩
   ·unfold ZbU
    simp only [hk]
    exact ⟨avs,rfl,h1⟩
   ·have:cs=cs.toList.toArray:=by simp
    intro X σ k
    show Rep w (K2 w) (.agg avs) (.agg cs)
    rw [this]
    exact .agg h2.1 h2.2.1 h2.2.2
  ·cases hf
theorem Zie {d:Nat} {r:Reach} {base:Nat} : ∀ (ts:List TypeId) (vs:List Value) (ds:List (DataW H)) (ps:List MemPlace),(∀ t∈ts,Zck P d t=Xb)→
  (∀ (j:Nat) (t:TypeId) (v:Value),ts[j]? = Xa t→vs[j]? = Xa v→Value.okWide P w r base t v)→DataW.TrodAll enc P w 0 sp held ts vs ds ps→
  vs.length=ts.length∧∃ xs:List AV,xs.length=ts.length∧∀ (i:Nat) (t:TypeId) (x:AV) (v:Value),ts[i]? = Xa t→xs[i]? = Xa x→vs[i]? = Xa v→ZbU P d t x∧∀ X σ k,ZQ P w (K2 w) X σ k x v
 | [], [], [], ps, _, _, _ => ⟨rfl, [], rfl, by simp⟩
 | t :: ts, v :: vs, x :: ds, ps, hf, hok, h => by
  obtain ⟨p,q,h1,h2,_⟩:=h
  obtain ⟨y,g1,g2⟩:=Zo2 (hf t (by simp)) (hok 0 t v rfl rfl) h1
  obtain ⟨k1,xs,k2,k3⟩:=Zie ts vs ds q (fun t ht=>hf t (by simp [ht])) (fun j t' v' ht hv=>hok (j+1) t' v' (by simpa using ht) (by simpa using hv)) h2
  refine ⟨by simp [k1],y::xs,by simp [k2],fun i t' x' v' ht hx hv=>?_⟩
  cases i with
  | zero =>
   simp only [XB,Xf] at ht hx hv
   subst ht
   subst hx
   subst hv
   exact ⟨g1,g2⟩
  | succ i => exact k3 i t' x' v' (by simpa using ht) (by simpa using hx) (by simpa using hv)
 | [], _ :: _, _, _, _, _, h => h.elim
 | [], [], _ :: _, _, _, _, h => h.elim
 | _ :: _, [], _, _, _, _, h => h.elim
 | _ :: _, _ :: _, [], _, _, _, h => h.elim
theorem ZhK {w':World} {sp':Nat→Bool} (hl:laidOutB P=Xb):∀ (ts:List TypeId) (vs:List Value) (ds:List (DataW H)) (ps:List MemPlace),(∀ t∈ts,t < P.types.size∧P.readableRec t=Xb)→
  DataW.TrodAll enc P w 0 (fun _=>Xb) Xb ts vs ds ps→(∀ p∈ps,w.sameAt w' p)→(∀ p∈ps,sp' p.block=Xb)→DataW.TrodAll enc P w' 0 sp' Xb ts vs ds ps
 | [], [], [], _, _, h, _, _ => h
 | t :: ts, v :: vs, x :: ds, ps, ht, h, hs, hp => by
  obtain ⟨p,q,⟨n,h1⟩,h2,rfl⟩:=h
  refine ⟨p,q,⟨n,?_⟩,ZhK hl ts vs ds q (fun t' h'=>ht t' (by simp [h'])) h2 (fun z hz=>hs z (by simp [hz])) (fun z hz=>hp z (by simp [hz])),rfl⟩
  have hr:=(ht t (by simp)).2
  exact DataW.trod_stays (T:=InBook P t) (kids_book hl hr) (fun {t' e} h' hu=>book_sized hr h' hu) (fun h=>by cases h) ⟨(ht t (by simp)).1,book_self t⟩ h1 (fun z hz=>hs z (by simp [hz])) (fun z hz=>hp z (by simp [hz]))
 | [], _ :: _, _, _, _, h, _, _ => h.elim
 | [], [], _ :: _, _, _, h, _, _ => h.elim
 | _ :: _, [], _, _, _, h, _, _ => h.elim
 | _ :: _, _ :: _, [], _, _, h, _, _ => h.elim
def ZlL (P:Program) (f:FuncId) (xs:List AV) (res:AV):Prop:=
 ∀ (w:World) (cargs:List Value),cargs.length≤xs.length→(∀ (i:Nat) (σ:Nat→AV),ZQ P w (K2 w) (fun _ _=>Xe) σ i (ZI xs i) (cargs.getD i undef))→
  Calls P f cargs.toArray w fun e w'=>∃ v lim' st,e = .returned v∧VY w (K2 w) w' lim' (fun _=>False) st∧Rep w' lim' res v
theorem ZlV {w:World} {lim:Lm} {X:Nat→Nat→Option Nat} {P:Program} {outs:List AV} {z v:Value} {n:Nat} {cargs:List Value} (hol:outs.length=n) (h:∀ i,ZQ P w lim X (ZI (outs++[.val z])) i (ZI (outs++[.val z]) i) (ZaK n cargs v i)):Rep w lim (.val z) v:=by
 have h:=h n
 have h1:ZI (outs++[.val z]) n = .val z:=by
  simp only [ZI]
  rw [Xy (by omega),hol]
  simp
 have h2:ZaK n cargs v n=v:=if_pos rfl
 rw [h1,h2] at h
 exact h
theorem Yo.entryS {P:Program} {f:FuncId} {xs outs:List AV} {z:Value} {p:Nat} (h:Yo P f (xs++(Xm p .dead++[.store []])) (.val z) outs) (hng:xs.countP AV.isG=0):ZlL P f xs (.val z):=by
 intro w cargs hl hrel
 refine (h.2.2 w (K2 w) (fun _ _=>Xe) cargs ?_ (fun i=>?_) (fun _ _ _ _ _ h=>by cases h) (fun _ _ _ h=>by cases h) (fun _ _ _=>rfl)).mono ?_
 ·have h1:(Xm p AV.dead).countP AV.isG=0:=Tp.2 fun x hx=>by rw [(List.mem_replicate.1 hx).2];simp [AV.isG]
  have h2 : [AV.store []].countP AV.isG=1:=rfl
  rw [U2,U2,hng,h1,h2,XA,XA]
  simp only [List.length_replicate,List.length_singleton]
  omega
 ·rcases Xx i xs.length with hi | hi
  ·have:ZI (xs++(Xm p .dead++[.store []])) i=ZI xs i:=by simp only [ZI];rw [Xv hi]
   rw [this]
   exact hrel i _
  ·have hc:ZI (xs++(Xm p .dead++[.store []])) i = .dead∨ZI (xs++(Xm p .dead++[.store []])) i = .store []:=by
    simp only [ZI]
    rw [Xy hi]
    rcases Xx (i-xs.length) p with h1 | h1
    ·rw [Xv (by simpa using h1),List.getElem?_replicate,if_pos h1]
     exact .inl rfl
    ·rw [Xy (by simpa using h1)]
     cases hj:i-xs.length-(Xm p AV.dead).length with
     | zero => exact .inr rfl
     | succ j => exact .inl rfl
   rcases hc with hc | hc
   ·rw [hc]
    trivial
   ·rw [hc]
    exact ⟨fun _ _=>rfl,rfl,fun j row hr=>by simp at hr⟩
 ·rintro e w' ⟨v,lim',X',rfl,hst,hol,hr,_⟩
  exact ⟨v,lim',_,rfl,⟨hst.os,hst.tape,hst.output,hst.size,hst.frz,fun b hb _=>hst.blk b hb (by rintro ⟨_,_,h⟩;cases h),hst.ext,hst.t⟩,ZlV hol hr⟩
theorem ZfE {fn:Func} {f:FuncId} {s:ChangeSpec} {apart fresh handsOn again:Bool} {tb:TypeId} {d:Nat} (hl:laidOutB P=Xb) (hpar:∀ t∈fn.params.toList,Zck P d t=Xb∧t < P.types.size∧P.readableRec t=Xb)
  (hres:fn.resultTypes = #[tb]) (htb:P.underlying tb=Xa .bool) (hvars:s.vars = []) (hs:∀ ds,ds.length=fn.params.size→s.fn H ds = { results:=[.lit (.bool Xb)],args:=ds })
  (hcall:∀ xs:List AV,xs.length=fn.params.toList.length→(∀ (i:Nat) (t:TypeId) (x:AV),fn.params.toList[i]? = Xa t→xs[i]? = Xa x→ZbU P d t x)→ZlL P f xs (B Xb))
  (W:World) (base:Nat) (args:Array Value) (ds gs:List (DataW H)) (before:List MemPlace)
  (hval:∀ (j:Nat) t v,fn.params[j]? = Xa t→args[j]? = Xa v→Value.okWide P W .any base t v) (hW:DataW.Whole enc P fn.params.toList s.vars apart W args.toList ds gs before) :
  Calls P f args W fun e W'=>∃ v,e = .returned v∧s.post enc P fn apart fresh handsOn again W args v W':=by
 have hW':=hW
 obtain ⟨p,q,hA,hV,rfl,_,_⟩:=hW
 rw [hvars] at hV
 obtain ⟨rfl,rfl⟩:=ChangeShapes.trodVars_none hV
 obtain ⟨hlen,xs,hx1,hx2⟩:=Zie (r:=.any) (base:=base) _ _ _ _ (fun t ht=>(hpar t ht).1) (fun j t v ht hv=>hval j t v (by simpa using ht) (by simpa using hv)) hA
 have hdl:ds.length=fn.params.size:=by
  have:∀ (ts:List TypeId) (vs:List Value) (ds:List (DataW H)) (ps:List MemPlace),DataW.TrodAll enc P W 0 (fun _=>Xb) Xb ts vs ds ps→ds.length=ts.length:=by
   intro ts
   induction ts with
   | nil => intro vs ds ps h; cases vs <;> cases ds <;> simp_all [DataW.TrodAll]
   | cons t ts ih =>
    intro vs ds ps h
    cases vs with
    | nil => exact h.elim
    | cons v vs =>
     cases ds with
     | nil => exact h.elim
     | cons x ds => obtain ⟨_, _, _, h2, _⟩ := h; simp [ih _ _ _ h2]
  simpa using this _ _ _ _ hA
 have hc:=hcall xs hx1 fun i t x ht hx=>by
  obtain ⟨v,hv⟩:∃ v,args.toList[i]? = Xa v:=⟨_,Xp (by rw [hlen];exact (Xi.1 ht).1)⟩
  exact (hx2 i t x v ht hx hv).1
 have hng:xs.countP AV.isG=0:=by
  rw [Tp]
  intro x hx hg
  obtain ⟨i,hi⟩:=XK.1 hx
  have hlt:=(Xi.1 hi).1
  obtain ⟨v,hv⟩:∃ v,args.toList[i]? = Xa v:=⟨_,Xp (by omega)⟩
  obtain ⟨t,ht⟩:∃ t,fn.params.toList[i]? = Xa t:=⟨_,Xp (by omega)⟩
  have hr:=(hx2 i t x v ht hi hv).2 (fun _ _=>Xe) (fun _=>.dead) 0
  have hty:=(hx2 i t x v ht hi hv).1
  cases x<;>simp [AV.isG] at hg
  ·obtain ⟨v',b,_,_,h,_⟩:=hr
   cases h
  ·unfold ZbU at hty
   split at hty
   ·obtain ⟨cs,h,_⟩:=hty;cases h
   ·cases hty.1
 have hcalls:=hc W args.toList (by rw [hlen,hx1];exact XD _) (fun i σ=>by
  cases hxi:xs[i]? with
  | none =>
   have:ZI xs i = .dead:=by simp [ZI,hxi]
   rw [this]
   trivial
  | some x =>
   have hi:=(Xi.1 hxi).1
   obtain ⟨v,hv⟩:∃ v,args.toList[i]? = Xa v:=⟨_,Xp (by omega)⟩
   obtain ⟨t,ht⟩:∃ t,fn.params.toList[i]? = Xa t:=⟨_,Xp (by omega)⟩
   have h1:ZI xs i=x:=by simp [ZI,hxi]
   have h2:args.toList.getD i undef=v:=by rw [List.getD_eq_getElem?_getD,hv];rfl
   rw [h1,h2]
   exact (hx2 i t x v ht hxi hv).2 _ _ _)
 rw [Array.toArray_toList] at hcalls
 refine hcalls.mono ?_
 rintro e W' ⟨v,lim',st,rfl,hst,hrep⟩
 have hv:v = .bool Xb:=YR hrep
 subst hv
 have hkept:∀ b,b < W.heap.size→W'.heap[b]? = W.heap[b]?:=fun b hb=>(hst.blk b hb fun h=>h).1
 have hsame:∀ z∈p++[],W.sameAt W' z:=by
  intro z hz
  have hlt:=hW'.lt z hz
  cases z with
  | cell b off =>
   show W'.cell? ⟨b,off,Xe⟩=W.cell? ⟨b,off,Xe⟩
   unfold World.cell?
   rw [hkept b hlt]
  | map b => exact hkept b hlt
 refine ⟨_,rfl,ZkZ (pa:=p) hW' (fun b sp hd=>?_) (fun sp hp=>?_) (fun sp _=>?_) rfl ?_ hst.frz ?_⟩
 ·rw [hs _ (by simpa using hdl),hres]
  exact ⟨[],[],⟨1,by simp [DataW.trod,htb,Value.cells]⟩,rfl,rfl⟩
 ·rw [hs _ (by simpa using hdl),Wc]
  exact ZhK hl _ _ _ _ (fun t ht=>(hpar t ht).2) hA (fun z hz=>hsame z (by simpa using hz)) (fun z hz=>hp z (by simpa using hz))
 ·rw [hs _ (by simpa using hdl),hvars]
  rfl
 ·refine ⟨hst.os,hst.output,fun i hi=>?_⟩
  rw [hkept i hi]
  cases W.heap[i]? with
  | none => rfl
  | some o => cases o <;> simp
 ·exact RowKit.ok_one hres rfl (RowKit.okWide_bool_mk htb Xb)
end
open Go
def blank:Char:=Char.ofNat 32
theorem Zi3 (r:List Char):wordsSigns (blank::r) = []::wordsSigns r:=by
 show wordsSigns (Char.ofNat 32::r)=_
 rw [wordsSigns]
theorem Zjj (c:Char) (r:List Char) (h:c≠blank):wordsSigns (c::r)=match wordsSigns r with | w::ws=>(c::w)::ws | []=>[[c]]:=by
 rw [wordsSigns]
 ·rfl
 ·exact h
theorem WQ (r:List Char):∀ (w:List Char),(w.all fun c=>c != blank)=Xb→wordsSigns (w++blank::r)=w::wordsSigns r
 | [], _ => Zi3 r
 | c :: w, h => by
  rw [List.all_cons,Xs] at h
  rw [List.cons_append,Zjj c _ (by simpa using h.1),WQ r w h.2]
theorem ZhJ {L:List Char} (h1:((L.take 7).all fun c=>c != blank)=Xb) (h2:(((L.drop 8).take 64).all fun c=>c != blank)=Xb) (h3:(((L.drop 73).take 3).all fun c=>c != blank)=Xb)
  (hL : L = L.take 7 ++ blank :: ((L.drop 8).take 64 ++ blank :: ((L.drop 73).take 3 ++ blank :: L.drop 77))) (hm : ((L.take 7 == "harness".toList || L.take 7 == "ownmain".toList) && isSumSigns ((L.drop 8).take 64)) = Xb)
  (hc : (L.drop 73).take 3 = "cut".toList) : ∃ ws, behindMainWord (wordsSigns L) = "cut".toList :: ws := by
 refine ⟨wordsSigns (L.drop 77),?_⟩
 have h:wordsSigns L=L.take 7::(L.drop 8).take 64::(L.drop 73).take 3::wordsSigns (L.drop 77):=by
  rw [hL,WQ _ _ h1,WQ _ _ h2,WQ _ _ h3,← hL]
 rw [h,behindMainWord,if_pos hm,hc]
theorem enters_of {P : Program} {ws : List (List Char)} (h : behindMainWord (wordsSigns P.initOrder.toList) = "cut".toList :: ws) (h1 : P.laysLater = Xc) (h2 : P.bearsReflect = Xc) (h3 : P.doorFits [] = Xb) : P.mayEnter = Xb := by
 unfold Program.mayEnter
 rw [h]
 have hs : stripLifts liftWords ("cut".toList :: ws) = ([], "cut".toList :: ws) := by kernel_rfl
 simp only [hs]
 simp [h1,h2,h3]
theorem lifts_of {P : Program} {ws : List (List Char)} (h : behindMainWord (wordsSigns P.initOrder.toList) = "cut".toList :: ws) : P.headLifts = [] := by
 unfold Program.headLifts
 rw [h]
 have hs : stripLifts liftWords ("cut".toList :: ws) = ([], "cut".toList :: ws) := by kernel_rfl
 simp only [hs]
 simp
theorem final_of {P : Program} {ws : List (List Char)} (h : behindMainWord (wordsSigns P.initOrder.toList) = "cut".toList :: ws) : P.liftsFinal = Xc := by
 unfold Program.liftsFinal
 rw [lifts_of h,h]
 have hs : ("cut".toList == "carried".toList) = Xc := by decide +kernel
 simp [hs]
theorem make_of {P : Program} {ws : List (List Char)} (h : behindMainWord (wordsSigns P.initOrder.toList) = "cut".toList :: ws) : P.make = Xa .cut := by
 unfold Program.make
 rw [h]
 simp
end Go.AM
namespace Go.Proofs.Ytpjnmgjphfnmmaa
open Go Go.AM
set_option maxRecDepth 100000
theorem behind : ∃ ws, behindMainWord (wordsSigns Try.prog.initOrder.toList) = "cut".toList :: ws := by
 have h:Try.prog.initOrder.toList=_:=String.toList_ofList (l:=_)
 rw [h]
 exact ZhJ (by kernel_rfl) (by kernel_rfl) (by kernel_rfl) (by kernel_rfl) (by kernel_rfl) (by kernel_rfl)
theorem ZsP:Try.prog.mayEnter=Xb:=behind.elim fun _ h=>Go.AM.enters_of h (by kernel_rfl) (by kernel_rfl) (by kernel_rfl)
theorem Ztv:Try.prog.liftsFinal=Xc:=behind.elim fun _ h=>Go.AM.final_of h
theorem ZsG:Try.prog.make=Xa .cut:=behind.elim fun _ h=>Go.AM.make_of h
theorem laid:laidOutB Try.prog=Xb:=by kernel_rfl
theorem ZnR:ownKnob Try.prog.godebug=Xe:=by kernel_rfl
theorem Zqm {d:Nat} {cs:List AV} (h:TyR Try.prog (d+1) 3 cs):∃ z,cs = [I z]:=by
 simp only [TyR,Try.underlying3] at h
 obtain ⟨z,h,_⟩:=h
 exact ⟨z,h⟩
theorem ZrM {d:Nat} {cs:List AV} (h:TyR Try.prog (d+1) 4 cs):∃ z,cs = [B z]:=by
 simp only [TyR,Try.underlying4] at h
 exact h
theorem arg_int {x:AV} (h:ZbU Try.prog 8 3 x):∃ z,x=I z:=by
 simp only [ZbU,Try.underlying3] at h
 obtain ⟨z,hz⟩:=Zqm h.2
 exact ⟨z,by simpa using hz⟩
theorem ZdM {α β:Type} {f:α→β} {p:α→Prop} : ∀ (xs:List β),(∀ x∈xs,∃ a,x=f a∧p a)→∃ l:List α,xs=l.map f∧∀ a∈l,p a
 | [], _ => ⟨[], rfl, by simp⟩
 | x :: xs, h => by
  obtain ⟨a,h1,h2⟩:=h x (by simp)
  obtain ⟨l,h3,h4⟩:=ZdM xs fun y hy=>h y (by simp [hy])
  refine ⟨a::l,by rw [h1,h3];rfl,fun b hb=>?_⟩
  rcases Xl.1 hb with rfl | hb
  ·exact h2
  ·exact h4 b hb
theorem ZsI:Try.prog.cellsOf 3=1:=by kernel_rfl
theorem Zsl:Try.prog.cellsOf 4=1:=by kernel_rfl
theorem Zpq {x:AV} (h:ZbU Try.prog 8 22 x):∃ l:List Int,x = .slice Xc 1 (l.map fun z=>[I z])∧l.length≤maxLen:=by
 simp only [ZbU,Try.underlying22] at h
 have hh:=h.2
 rw [TyR] at hh
 simp only [Try.underlying22,ZsI] at hh
 obtain ⟨xs,h1,h2,h3⟩:=hh
 obtain ⟨l,rfl,h5⟩:=ZdM (f:=fun z=>[I z]) (p:=fun _=>True) xs fun y hy=>by
  obtain ⟨z,hz⟩:=Zqm (h3 y hy)
  exact ⟨z,hz,trivial⟩
 exact ⟨l,by simpa using h1,by simpa using h2⟩
theorem Zox {x:AV} (h:ZbU Try.prog 8 23 x):∃ l:List Bool,x = .slice Xc 1 (l.map fun b=>[B b])∧l.length≤maxLen:=by
 simp only [ZbU,Try.underlying23] at h
 have hh:=h.2
 rw [TyR] at hh
 simp only [Try.underlying23,Zsl] at hh
 obtain ⟨xs,h1,h2,h3⟩:=hh
 obtain ⟨l,rfl,h5⟩:=ZdM (f:=fun b=>[B b]) (p:=fun _=>True) xs fun y hy=>by
  obtain ⟨z,hz⟩:=ZrM (h3 y hy)
  exact ⟨z,hz,trivial⟩
 exact ⟨l,by simpa using h1,by simpa using h2⟩
def ZrO:List TypeId:=[3,4,22,23,46]
theorem ZtS (t:TypeId) (h:ZrO.contains t=Xb):Zck Try.prog 8 t=Xb∧t < Try.prog.types.size∧Try.prog.readableRec t=Xb:=by
 have h2:ZrO.all (fun t=>Zck Try.prog 8 t&&decide (t < Try.prog.types.size)&&Try.prog.readableRec t)=Xb:=by kernel_rfl
 rw [XE] at h2
 have:=h2 t (by simpa using h)
 simpa [and_assoc] using this
end Go.Proofs.Ytpjnmgjphfnmmaa
