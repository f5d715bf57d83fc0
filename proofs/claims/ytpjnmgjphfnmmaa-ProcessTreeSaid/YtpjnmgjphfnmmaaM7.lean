import Derived.Test.YtpjnmgjphfnmmaaM6
import Derived.Test.YtpjnmgjphfnmmaaFV
import Derived.Test.YtpjnmgjphfnmmaaM4
import Derived.ChangeArms
import Derived.ChangeStays
import Derived.ChangeBook
import Derived.ChangeSame
import Derived.RowKit
import Derived.ChangeOld
import GoSem.ClaimJoined
import GoSem.ClaimOpenFrom
import Derived.KernelRfl
import Derived.Test.YtpjnmgjphfnmmaaRows
import Derived.Test.YtpjnmgjphfnmmaaChecked
import Derived.JoinedOf
import Derived.JoinedAt
import Derived.RowKit3
open Option renaming some→Xa,none→Xe,bind_some→Xi,map_some→Xw
open Bool renaming true→Xb,false→Xc,and_eq_true→Xr
open Option.some renaming injEq→Xf
open List renaming replicate→Xg,mem_map→Xj,getElem?_eq_some_iff→Xk,getElem?_map→Xl,mem_cons→Xp,getElem?_eq_getElem→Xs,length_append→Xu,mem_append→Xv,getElem?_append_left→Xx,getElem?_append_right→Xy,getElem?_cons_zero→XB,mem_singleton→XD,all_eq_true→XE,append_nil→XJ,mem_iff_getElem?→XP,find?_some→X4,flatten_cons→X5,mem_of_find?_eq_some→Wa,any_eq_true→Ub,sum_cons→Ue,countP_append→U4
open Nat renaming lt_or_ge→XF
set_option linter.unusedVariables false
set_option linter.unusedSimpArgs false
set_option linter.defProp false
namespace Go.W
section
open Go Go.AM Go.Proofs.Ytpjnmgjphfnmmaa
set_option maxRecDepth 100000
variable {rows:LL} {F:Ym} {es:List PE} {last:Int}
theorem Zpr {e' p:PE} {parent core:Int} {nm:ByteArray} (h:TP es) (ho:LOk es last) (hr:J1 es parent=Xa p) (he':e'.p=⟨last+1,parent,nm,[core],Xc,0,Xc⟩):TP (es++[e']):=by
 obtain ⟨hf,hen⟩:=Z2 hr
 have hpm:=Wa hf
 have hpi:p.p.id=parent:=by have:=X4 hf;simpa using this
 have hmem:∀ {a},a∈es++[e']→a∈es∨a=e':=fun ha=>by
  rcases Xv.1 ha with ha | ha
  ·exact .inl ha
  ·exact .inr (XD.1 ha)
 refine ⟨fun a ha h1=>?_,fun a ha h1=>?_,fun a ha h1=>?_,fun a ha h1=>?_⟩
 ·rcases hmem ha with ha | rfl
  ·obtain ⟨q,hq,h2,h3⟩:=h.par a ha h1
   exact ⟨q,by simp [hq],h2,h3⟩
  ·exact ⟨p,by simp [hpm],by rw [he'];exact hpi,fun hh=>by rw [hen] at hh;cases hh⟩
 ·rcases hmem ha with ha | rfl
  ·exact h.fin a ha h1
  ·rw [he'] at h1;cases h1
 ·rcases hmem ha with ha | rfl
  ·exact h.run a ha h1
  ·rw [he']
 ·rcases hmem ha with ha | rfl
  ·obtain ⟨⟨w,hwm,w1,w2⟩,w3⟩:=h.wt a ha h1
   refine ⟨⟨w,by simp [hwm],w1,w2⟩,fun d hd hdp=>?_⟩
   rcases hmem hd with hd | rfl
   ·exact w3 d hd hdp
   ·rw [he'];exact .inl rfl
  ·rw [he'] at h1;cases h1
theorem ZqK {f:PE→PE} (h:TP es) (hid:∀ e,(f e).p.id=e.p.id) (hpa:∀ e,(f e).p.parent=e.p.parent) (hen:∀ e,(f e).p.ended=e.p.ended) (hst:∀ e,(f e).p.status=e.p.status) (hwt:∀ e,(f e).p.waiting=e.p.waiting) (hcs:∀ e∈es,e.p.ended=Xb→(f e).p.cores = []):TP (es.map f):=by
 refine ⟨fun a ha h1=>?_,fun a ha h1=>?_,fun a ha h1=>?_,fun a ha h1=>?_⟩
 ·obtain ⟨e,he,rfl⟩:=Xj.1 ha
  rw [hid] at h1
  obtain ⟨q,hq,h2,h3⟩:=h.par e he h1
  exact ⟨f q,Xj.2 ⟨q,hq,rfl⟩,by rw [hid,hpa];exact h2,fun hh=>by rw [hid];exact h3 (by rw [← hen];exact hh)⟩
 ·obtain ⟨e,he,rfl⟩:=Xj.1 ha
  rw [hen] at h1
  exact ⟨hcs e he h1,by rw [hwt];exact (h.fin e he h1).2⟩
 ·obtain ⟨e,he,rfl⟩:=Xj.1 ha
  rw [hen] at h1
  rw [hst]
  exact h.run e he h1
 ·obtain ⟨e,he,rfl⟩:=Xj.1 ha
  rw [hwt] at h1
  obtain ⟨⟨w,hwm,w1,w2⟩,w3⟩:=h.wt e he h1
  refine ⟨⟨f w,Xj.2 ⟨w,hwm,rfl⟩,by rw [hid,hpa];exact w1,by rw [hen];exact w2⟩,fun d' hd' hdp=>?_⟩
  obtain ⟨d,hd,rfl⟩:=Xj.1 hd'
  rw [hid,hpa] at hdp
  rw [hen]
  exact w3 d hd hdp
theorem Zsg (h:TP es) (ho:LOk es last) (k:Int):TP (YC es k).1:=by
 unfold YC
 cases hr:J1 es k with
 | none => exact h
 | some p =>
  obtain ⟨hf,hen⟩:=Z2 hr
  have hpm:=Wa hf
  have hpk:p.p.id=k:=by have:=X4 hf;simpa using this
  have hpr:=ho.rng p hpm
  dsimp only
  by_cases hw:p.p.waiting=Xb
  ·rw [if_pos hw];exact h
  ·rw [if_neg hw]
   cases hfc:es.find? (fun e=>decide (e.p.parent=k)&&e.p.ended) with
   | some c =>
    have hcm:=Wa hfc
    have hc2:c.p.parent=k∧c.p.ended=Xb:=by
     have:=X4 hfc
     rw [Xr] at this
     exact ⟨by simpa using this.1,this.2⟩
    have hcpar:=ho.par c hcm
    have huc:∀ e∈es,e.p.id=c.p.id→e=c:=fun e he hh=>Zrn ho.srt he hcm hh
    dsimp only
    refine ⟨fun a ha h1=>?_,fun a ha h1=>?_,fun a ha h1=>?_,fun a ha h1=>?_⟩
    ·obtain ⟨ha,hac⟩:=Wp.1 ha
     obtain ⟨q,hq,h2,h3⟩:=h.par a ha h1
     refine ⟨q,Wp.2 ⟨hq,fun hh=>?_⟩,h2,h3⟩
     have:q=c:=huc q hq hh
     subst this
     rcases h3 hc2.2 with h4 | h4
     ·omega
     ·exact h4
    ·exact h.fin a (Wp.1 ha).1 h1
    ·exact h.run a (Wp.1 ha).1 h1
    ·obtain ⟨ha,hac⟩:=Wp.1 ha
     obtain ⟨⟨w,hwm,w1,w2⟩,w3⟩:=h.wt a ha h1
     refine ⟨⟨w,Wp.2 ⟨hwm,fun hh=>?_⟩,w1,w2⟩,fun d hd=>w3 d (Wp.1 hd).1⟩
     have:w=c:=huc w hwm hh
     subst this
     rcases w2 with w2 | w2
     ·rw [hc2.2] at w2;cases w2
     ·exact w2
   | none =>
    dsimp only
    by_cases ha:(es.any fun e=>decide (e.p.parent=k))=Xb
    ·rw [if_pos ha]
     obtain ⟨c,hcm,hcp⟩:=Ub.1 ha
     have hcp':c.p.parent=k:=by simpa using hcp
     have hnone:∀ d∈es,d.p.parent=k→d.p.ended=Xc:=fun d hd hdp=>by
      have:=List.find?_eq_none.1 hfc d hd
      simpa [hdp] using this
     have mem:∀ {e'},e'∈V4 k (fun q=>{ q with waiting:=Xb }) es↔∃ e∈es,e'=if e.p.id=k then Zev Xb e else e:=fun {e'}=>Zf7
     have tid:∀ e:PE,(if e.p.id=k then Zev Xb e else e).p.id=e.p.id:=fun e=>by split<;>rfl
     have ten:∀ e:PE,(if e.p.id=k then Zev Xb e else e).p.ended=e.p.ended:=fun e=>by split<;>rfl
     have tcs:∀ e:PE,(if e.p.id=k then Zev Xb e else e).p.cores=e.p.cores:=fun e=>by split<;>rfl
     have tst:∀ e:PE,(if e.p.id=k then Zev Xb e else e).p.status=e.p.status:=fun e=>by split<;>rfl
     have tpa:∀ e:PE,(if e.p.id=k then Zev Xb e else e).p.parent=e.p.parent:=fun e=>by split<;>rfl
     refine ⟨fun a ha h1=>?_,fun a ha h1=>?_,fun a ha h1=>?_,fun a ha h1=>?_⟩
     ·obtain ⟨e,he,rfl⟩:=mem.1 ha
      rw [tid] at h1
      obtain ⟨q,hq,h2,h3⟩:=h.par e he h1
      exact ⟨_,mem.2 ⟨q,hq,rfl⟩,by rw [tid,tpa];exact h2,fun hh=>by rw [tid];exact h3 (by rw [← ten];exact hh)⟩
     ·obtain ⟨e,he,rfl⟩:=mem.1 ha
      rw [ten] at h1
      rw [tcs]
      have hfi:=h.fin e he h1
      refine ⟨hfi.1,?_⟩
      by_cases hek:e.p.id=k
      ·have:e=p:=Zrn ho.srt he hpm (hek.trans hpk.symm)
       subst this
       rw [hen] at h1;cases h1
      ·rw [if_neg hek];exact hfi.2
     ·obtain ⟨e,he,rfl⟩:=mem.1 ha
      rw [ten] at h1
      rw [tst]
      exact h.run e he h1
     ·obtain ⟨e,he,rfl⟩:=mem.1 ha
      rw [tid]
      by_cases hek:e.p.id=k
      ·refine ⟨⟨_,mem.2 ⟨c,hcm,rfl⟩,by rw [tpa,hcp',hek],.inl (by rw [ten];exact hnone c hcm hcp')⟩,fun d' hd' hdp=>?_⟩
       obtain ⟨d,hd,rfl⟩:=mem.1 hd'
       rw [tpa,hek] at hdp
       rw [ten]
       exact .inl (hnone d hd hdp)
      ·rw [if_neg hek] at h1
       obtain ⟨⟨w,hwm,w1,w2⟩,w3⟩:=h.wt e he h1
       refine ⟨⟨_,mem.2 ⟨w,hwm,rfl⟩,by rw [tpa];exact w1,by rw [ten];exact w2⟩,fun d' hd' hdp=>?_⟩
       obtain ⟨d,hd,rfl⟩:=mem.1 hd'
       rw [tpa] at hdp
       rw [ten]
       exact w3 d hd hdp
    ·rw [if_neg ha]
     exact h
theorem Ztp {es':List PE} {last':Int} (ho:LOk es last) (h:TP es) (s:Stp es last es' last'):TP es':=by
 cases s with
 | same => exact h
 | spawn e' p parent core nm h1 _ h2 => exact Zpr h ho h1 h2
 | span k core L e h1 _ _ =>
  obtain ⟨hf,hen⟩:=Z2 h1
  have hem:=Wa hf
  have hek:e.p.id=k:=by have:=X4 hf;simpa using this
  refine ZqK h (fun a=>?_) (fun a=>?_) (fun a=>?_) (fun a=>?_) (fun a=>?_) fun a ha hae=>?_
  ·split<;>rfl
  ·split<;>rfl
  ·split<;>rfl
  ·split<;>rfl
  ·split<;>rfl
  ·by_cases hak:a.p.id=k
   ·have:a=e:=Zrn ho.srt ha hem (hak.trans hek.symm)
    subst this
    rw [hen] at hae;cases hae
   ·rw [if_neg hak];exact (h.fin a ha hae).1
 | exit k st e h1 => exact Zq9 h ho h1
 | kill zs => exact ZaS (-1) zs es h ho
 | wait k => exact Zsg h ho k
 | depart core _ =>
  refine ZaS (-2) _ _ (ZqK h (fun _=>rfl) (fun _=>rfl) (fun _=>rfl) (fun _=>rfl) (fun _=>rfl) fun a ha hae=>?_) (Zaw ho core)
  show wo core a.p.cores = []
  rw [(h.fin a ha hae).1]
  rfl
theorem Zn7 (rec0:List V→Option Bool) (l:List Pr) (hl:l.length≤1000) (i:Nat) (hi:i≤1000) (p:Pr):∀ (ks pre:List Pr) (a b:Bool) (q:Nat),l=pre++ks→ks.length < q→
  (p.waiting=Xb→(a||ks.any fun c=>decide (c.parent=p.id)&&!c.ended)=Xb∧(b||ks.any fun c=>decide (c.parent=p.id)&&c.ended)=Xc)→
  ZhZ rec0 q (l.map KO) (i:Int) p.id p.parent p.name (ints p.cores) p.ended p.status p.waiting a b (pre.length:Int)=rec0 [.l (l.map KO),.i ((i+1:Nat):Int)]
 | [], pre, a, b, q, hs, hq, hw => by
  obtain ⟨q',rfl⟩:∃ q',q=q'+1:=⟨q-1,by simp at hq;omega⟩
  rw [XJ] at hs
  have hlen:((l.map KO).length:Int)=(l.length:Int):=by simp
  rw [ZkV,hlen,hs,if_neg (by simp [cop]),ZaQ (by omega)]
  cases hpw:p.waiting with
  | false => rw [if_neg (by decide)]
  | true =>
   obtain ⟨h1,h2⟩:=hw hpw
   simp only [List.any_nil,Bool.or_false] at h1 h2
   rw [if_pos rfl,h1,h2,if_neg (by decide),if_neg (by decide)]
 | c :: ks, pre, a, b, q, hs, hq, hw => by
  obtain ⟨q',rfl⟩:∃ q',q=q'+1:=⟨q-1,by simp at hq;omega⟩
  have hz:l[pre.length]? = Xa c:=by rw [hs];simp
  have hlt:=(Xk.1 hz).1
  have hlen:((l.map KO).length:Int)=(l.length:Int):=by simp
  have hl1:((pre++[c]).length:Int)=((pre.length+1:Nat):Int):=by simp
  have hv1:(v7 c).2.1=c.parent:=rfl
  have hv2:(v7 c).2.2.2.2.1=c.ended:=rfl
  rw [ZkV,hlen,if_pos (by simp [cop];omega),YI hz,YI hz,YI hz,hv1,hv2,ZaQ (by omega)]
  simp only [List.any_cons] at hw
  by_cases hp:c.parent=p.id
  ·have ih:=Zn7 rec0 l hl i hi p ks (pre++[c]) (a||!c.ended) (b||c.ended) q' (by rw [hs];simp) (by simp at hq;omega) (fun hh=>by
    obtain ⟨h1,h2⟩:=hw hh
    rw [hp] at h1 h2
    simp only [decide_true,Bool.true_and] at h1 h2
    exact ⟨by rw [Bool.or_assoc];exact h1,by rw [Bool.or_assoc];exact h2⟩)
   rw [hl1] at ih
   rw [if_pos (by simp [cop,hp])]
   cases a<;>cases b<;>simp only [Bool.false_or,Bool.true_or] at ih
   ·rw [if_neg (by decide),if_neg (by decide),YI hz,hv2];exact ih
   ·rw [if_neg (by decide),if_pos rfl];exact ih
   ·rw [if_pos rfl,if_neg (by decide)];exact ih
   ·rw [if_pos rfl,if_pos rfl];exact ih
  ·have ih:=Zn7 rec0 l hl i hi p ks (pre++[c]) a b q' (by rw [hs];simp) (by simp at hq;omega) (fun hh=>by
    obtain ⟨h1,h2⟩:=hw hh
    simpa [hp] using And.intro h1 h2)
   rw [hl1] at ih
   rw [if_neg (by simp [cop,hp])]
   exact ih
theorem Zkk (ho:LOk es last) (h:TP es) (hrc:RC es):∀ (ks pre:List PE) (q:Nat),es=pre++ks→ks.length < q→Zsb q ((es.map PE.p).map KO) (pre.length:Int)=Xa Xb
 | [], pre, q, hs, hq => by
  obtain ⟨q',rfl⟩:∃ q',q=q'+1:=⟨q-1,by simp at hq;omega⟩
  rw [XJ] at hs
  have hlen:(((es.map PE.p).map KO).length:Int)=(es.length:Int):=by simp
  obtain ⟨r0,hr0,hr1⟩:=ho.one
  obtain ⟨e,t,het⟩:∃ e t,es=e::t:=by
   cases hes:es with
   | nil => rw [hes] at hr0; cases hr0
   | cons e t => exact ⟨e, t, rfl⟩
  have hz:(es.map PE.p)[0]? = Xa e.p:=by rw [het];rfl
  have he1:e.p.id=1:=by
   have h1:=ho.rng e (by rw [het];simp)
   rw [het] at hr0
   rcases Xp.1 hr0 with rfl | hr
   ·exact hr1
   ·have hsr:=ho.srt
    rw [het,List.pairwise_cons] at hsr
    have:=hsr.1 r0 hr
    omega
  have hpos:1≤es.length:=by rw [het];simp
  rw [Zj9,hlen,← hs,if_neg (by simp [cop]),if_pos (by simp [cop];omega),show (0:Int)=((0:Nat):Int) from rfl,YI hz]
  show Xa (cop .eql e.p.id 1)=_
  rw [he1]
  rfl
 | e :: ks, pre, q, hs, hq => by
  obtain ⟨q',rfl⟩:∃ q',q=q'+1:=⟨q-1,by simp at hq;omega⟩
  have hol:=ho.len
  have he:e∈es:=by rw [hs];simp
  have hz:(es.map PE.p)[pre.length]? = Xa e.p:=by rw [hs];simp
  have hi:pre.length < es.length:=by rw [hs];simp
  have hlen:(((es.map PE.p).map KO).length:Int)=(es.length:Int):=by simp
  have hl1:((pre++[e]).length:Int)=((pre.length+1:Nat):Int):=by simp
  have ih:=Zkk ho h hrc ks (pre++[e]) q' (by rw [hs];simp) (by simp at hq;omega)
  rw [hl1] at ih
  have hpar:=ho.par e he
  have hrg:=ho.rng e he
  have hin:X18 q' ((es.map PE.p).map KO) (pre.length:Int) (v7 e.p)=Xa Xb:=by
   have:=Zn7 (F18.lp [0] 0 r0 q') (es.map PE.p) (by simp;omega) pre.length (by omega) e.p (es.map PE.p) [] Xc Xc Jr rfl (by simp;unfold Jr;omega) (fun hw=>by
    obtain ⟨⟨w,hwm,w1,w2⟩,w3⟩:=h.wt e he hw
    rw [Bool.false_or,Bool.false_or]
    refine ⟨Ub.2 ⟨w.p,Xj.2 ⟨w,hwm,rfl⟩,?_⟩,List.any_eq_false.2 fun c hc=>?_⟩
    ·rcases w2 with w2 | w2
     ·simp [w1,w2]
     ·exact w2.elim
    ·obtain ⟨d,hd,rfl⟩:=Xj.1 hc
     intro hh
     rw [Xr] at hh
     rcases w3 d hd (by simpa using hh.1) with w4 | w4
     ·rw [w4] at hh;exact absurd hh.2 (by decide)
     ·exact w4)
   unfold X18
   exact this.trans ih
  have hC:C18 q' ((es.map PE.p).map KO) (pre.length:Int) (v7 e.p)=Xa Xb:=by
   unfold C18
   by_cases hen:e.p.ended=Xb
   ·exact (if_neg (show ¬ ((!e.p.ended)=Xb) by rw [hen];decide)).trans hin
   ·have hen':e.p.ended=Xc:=by simpa using hen
    have hne:=hrc e he hen'
    have hst:=h.run e he hen'
    refine (if_pos (show (!e.p.ended)=Xb by rw [hen'];rfl)).trans ?_
    refine (if_neg (show ¬ (cop .eql ((ints e.p.cores).length:Int) 0=Xb) by simp [cop,hne])).trans ?_
    exact (if_neg (show ¬ (cop .neq e.p.status 0=Xb) by simp [cop,hst])).trans hin
  have hB:B18 q' ((es.map PE.p).map KO) (pre.length:Int) (v7 e.p)=Xa Xb:=by
   unfold B18
   by_cases hen:e.p.ended=Xb
   ·obtain ⟨h1,h2⟩:=h.fin e he hen
    refine (if_pos (show e.p.ended=Xb from hen)).trans ?_
    refine (if_neg (show ¬ (cop .gtr ((ints e.p.cores).length:Int) 0=Xb) by rw [h1];decide)).trans ?_
    exact (if_neg (show ¬ (e.p.waiting=Xb) by rw [h2];decide)).trans hC
   ·exact (if_neg (show ¬ (e.p.ended=Xb) from hen)).trans hC
  have hD:D18 q' ((es.map PE.p).map KO) (pre.length:Int) (v7 e.p) (at8 ((es.find? fun a=>decide (a.p.id=e.p.parent)).map PE.p))=Xa Xb:=by
   unfold D18
   by_cases h1:e.p.id=1
   ·have h0:e.p.parent=0:=by omega
    refine (if_neg (show ¬ ((!((cop .eql e.p.id 1) == (cop .eql e.p.parent 0)))=Xb) by rw [h1,h0];decide)).trans ?_
    refine (if_neg (show ¬ (cop .neq e.p.id 1=Xb) by rw [h1];decide)).trans ?_
    unfold A18
    exact (if_neg (show ¬ (cop .neq e.p.id 1=Xb) by rw [h1];decide)).trans hB
   ·obtain ⟨p,hp,h2,h3⟩:=h.par e he h1
    have hpr:=ho.rng p hp
    have hf:=Z7 ho.srt hp
    rw [h2] at hf
    rw [hf]
    have n1:cop .neq e.p.id 1=Xb:=by simp [cop,h1]
    refine (if_neg (show ¬ ((!((cop .eql e.p.id 1) == (cop .eql e.p.parent 0)))=Xb) by
     have a1:cop .eql e.p.id 1=Xc:=by simp [cop,h1]
     have a2:cop .eql e.p.parent 0=Xc:=by simp [cop];omega
     rw [a1,a2];decide)).trans ?_
    refine (if_pos (show cop .neq e.p.id 1=Xb from n1)).trans ?_
    refine (if_neg (show ¬ ((!true)=Xb) by decide)).trans ?_
    refine (if_neg (show ¬ (cop .geq e.p.parent e.p.id=Xb) by simp [cop];omega)).trans ?_
    unfold A18
    refine (if_pos (show cop .neq e.p.id 1=Xb from n1)).trans ?_
    by_cases hpe:p.p.ended=Xb
    ·refine (if_pos (show p.p.ended=Xb from hpe)).trans ?_
     have hp1:p.p.id=1:=(h3 hpe).elim (fun a=>a) fun a=>a.elim
     exact (if_neg (show ¬ (cop .neq p.p.id 1=Xb) by rw [hp1];decide)).trans hB
    ·exact (if_neg (show ¬ (p.p.ended=Xb) from hpe)).trans hB
  have hv:(v7 e.p).2.1=e.p.parent:=rfl
  rw [Zj9,hlen,if_pos (by simp [cop];omega),YI hz,hv,s20 _ (by simp;omega),Xi,ZuZ]
  by_cases h0:pre.length=0
  ·rw [if_neg (by simp [cop,h0])]
   exact hD
  ·have hsub:iop .sub .i64 (pre.length:Int) 1=((pre.length-1:Nat):Int):=by rw [Zun (by omega) (by omega)];omega
   obtain ⟨pr2,d,hpd⟩:∃ pr2 d,pre=pr2++[d]:=⟨pre.dropLast,pre.getLast (fun hh=>h0 (by rw [hh];rfl)),(List.dropLast_concat_getLast _).symm⟩
   have hzd:(es.map PE.p)[pre.length-1]? = Xa d.p:=by rw [hs,hpd];simp
   rw [if_pos (by simp [cop];omega),hsub,YI hzd]
   have hlt:d.p.id < e.p.id:=by
    have hsr:=ho.srt
    rw [hs,List.pairwise_append] at hsr
    exact hsr.2.2 d (by rw [hpd];simp) e (by simp)
   exact (if_neg (show ¬ (cop .leq e.p.id d.p.id=Xb) by simp [cop];omega)).trans hD
theorem s18 (ho:LOk es last) (h:TP es) (hrc:RC es):g18 ((es.map PE.p).map KO)=Xa Xb:=by
 rw [ZtK]
 exact Zkk ho h hrc es [] Jr rfl (by have:=ho.len;unfold Jr;omega)
theorem Zhi (ss:List ZrW) {x y:LL} : ∀ (d i:Nat) (m:MS) (r:RS) (rows:LL) (F:Ym) (q:Nat),i+d=100→Bo rows m r F→RC m.es→TP m.es→Zd x = .oref (m.jm+1) 0→Zd y = .oref (r.jr+1) 0→m.last≤(i:Int)+1→d < q→
  ∃ rows',ZtA q (ss.map stepc) x y Xb (i:Int) rows=Xa (Xb,rows')
 | 0, i, m, r, rows, F, q, hd, b, hrc, htp, hx, hy, hl, hq => by
  obtain ⟨q',rfl⟩:∃ q',q=q'+1:=⟨q-1,by omega⟩
  obtain ⟨r',hr⟩:=s15 b.h
  refine ⟨r',?_⟩
  rw [ZiJ,if_pos rfl,if_pos rfl,hr]
  split
  ·rw [if_neg (by simp [cop];omega)]
   rfl
  ·rfl
 | d + 1, i, m, r, rows, F, q, hd, b, hrc, htp, hx, hy, hl, hq => by
  obtain ⟨q',rfl⟩:∃ q',q=q'+1:=⟨q-1,by omega⟩
  have hlen:((ss.map stepc).length:Int)=(ss.length:Int):=by simp
  by_cases hi:i < ss.length
  ·have hz:=Xs hi
   obtain ⟨rows2,m',r',F',q1,q2,q3,q4,q5,q6⟩:=s17 b hx hy (by omega) ss[i].k ss[i].a ss[i].b ss[i].c ss[i].raw ss[i].nm
   have hrc':=ZtD b.lok hrc q6
   have htp':=Ztp b.lok htp q6
   have hx':Zd x = .oref (m'.jm+1) 0:=by rw [q3];exact hx
   obtain ⟨rows3,F3,t1,t2⟩:=s14 q2.h q2.ok hx' (fun e he=>Nat.le_trans (Zrc q2.co e he) (by decide))
   have b3:Bo rows3 m' r' (F3++F'):=⟨(mvR t2).perm (List.perm_append_comm_assoc _ _ _),q2.ok,q2.sm,q2.lst,q2.lok,q2.co⟩
   rw [ZiJ,if_pos rfl,hlen,if_pos (by simp [cop];omega),if_pos (by simp [cop];omega),ZmB hz,q1,Xi,ZaQ (by omega)]
   dsimp only
   rw [if_pos rfl,t1,Xi]
   dsimp only
   rw [s18 q2.lok htp' hrc',Xi]
   exact Zhi ss d (i+1) m' r' rows3 (F3++F') q' (by omega) b3 hrc' htp' hx' (by rw [q4];exact hy) (by omega) (by omega)
  ·obtain ⟨r',hr⟩:=s15 b.h
   refine ⟨r',?_⟩
   rw [ZiJ,if_pos rfl,if_pos rfl,hlen,if_neg (by simp [cop];omega),hr]
   rfl
theorem s4 (core:Int) (ss:List ZrW):∃ rows',g4 core (ss.map stepc) E0=Xa (Xb,rows'):=by
 have h:ZD E0 []:=⟨List.nodup_nil,fun p hp=>by cases hp⟩
 obtain ⟨r1,m,r,F',j,c,z,q1,q2,q3,q4,q5⟩:=s16 h core
 rw [Zvo,q1,Xi]
 refine Zhi ss 100 0 m r r1 F' Jr rfl q2 (fun e he _=>?_) ?_ rfl rfl (by rw [q4];decide) (by unfold Jr;omega)
 ·rw [q3,XD] at he
  rw [he]
  simp [Wq]
 ·rw [q3]
  refine ⟨fun e he h1=>?_,fun e he h1=>?_,fun e he h1=>?_,fun e he h1=>?_⟩ <;> rw [XD] at he<;>subst he
  ·exact absurd rfl h1
  ·cases h1
  ·rfl
  ·cases h1
end
end Go.W
namespace Go.AM
def TyR (P:Program):Nat→TypeId→List AV→Prop
 | 0, _, _ => False
 | d + 1, T, cs =>
  match P.underlying T with
  | some (.int k) => ∃ z, cs = [.val (.int k z)] ∧ (Lit.int k z).wf = Xb
  | some .bool => ∃ b, cs = [.val (.bool b)]
  | some .string => ∃ s, cs = [.val (.string s)]
  | some (.slice e) => ∃ xs : List (List AV), cs = [.slice Xc (P.cellsOf e) xs] ∧ xs.length ≤ maxLen ∧ ∀ x ∈ xs, TyR P d e x
  | some (.struct fs) => ∃ parts : List (List AV), cs = parts.flatten ∧ parts.length = fs.size ∧ ∀ (i : Nat) (f : Field) (p : List AV), fs[i]? = Xa f → parts[i]? = Xa p → TyR P d f.type p
  | _ => False
def Zcs (P:Program):Nat→TypeId→Bool
 | 0, _ => Xc
 | d + 1, T =>
  match P.underlying T with
  | some (.int _) => Xb
  | some .bool => Xb
  | some .string => Xb
  | some (.slice e) => Zcs P d e && decide (0 < P.cellsOf e)
  | some (.struct fs) => (fs.toList.all fun f => Zcs P d f.type) && decide (P.cellsOf T = (fs.toList.map fun f => P.cellsOf f.type).sum) &&
    (fs.toList.zipIdx.all fun p=>decide (p.1.offset=((fs.toList.take p.2).map fun f=>P.cellsOf f.type).sum))
  | _ => Xc
def KU (w:World):Lm:=⟨fun b=>match w.heap[b]? with | some (.cells c _ _)=>c.size | _=>0,fun _=>Xe⟩
theorem Zml {w:World} {b o:Nat} {u:Value} (h:w.cell? ⟨b,o,Xe⟩=Xa u):o < KU w b:=by
 unfold World.cell? at h
 unfold KU
 dsimp only
 split at h
 ·rename_i c t fr hc
  have h':c[o]? = Xa u:=by simpa using h
  have hc':w.heap[b]? = Xa (.cells c t fr):=hc
  rw [hc']
  exact (Array.getElem?_eq_some_iff.1 h').1
 ·cases h
theorem JH.flat {w:World} {lim:Lm} : ∀ (aZ:List (List AV)) (us:List (List Value)),aZ.length=us.length→(∀ (i:Nat) (a:List AV) (u:List Value),aZ[i]? = Xa a→us[i]? = Xa u→JH w lim a u)→JH w lim aZ.flatten us.flatten
 | [], [], _, _ => JH.nil w lim
 | [], _ :: _, h, _ => by simp at h
 | _ :: _, [], h, _ => by simp at h
 | a :: aZ, u :: us, h, hr => by
  have h1:=hr 0 a u rfl rfl
  have h2:=JH.flat aZ us (by simpa using h) fun i a' u' ha hu=>hr (i+1) a' u' (by simpa using ha) (by simpa using hu)
  refine ⟨by simp [h1.1,h2.1],fun c hc=>?_,fun i c v hc hv=>?_⟩
  ·rw [X5,Xv] at hc
   rcases hc with hc | hc
   ·exact h1.2.1 c hc
   ·exact h2.2.1 c hc
  ·rw [X5] at hc hv
   by_cases hi:i < a.length
   ·rw [Xx hi] at hc
    rw [Xx (by rw [← h1.1];exact hi)] at hv
    exact h1.2.2 i c v hc hv
   ·rw [Xy (by omega)] at hc
    rw [Xy (by rw [← h1.1];omega),← h1.1] at hv
    exact h2.2.2 _ c v hc hv
theorem Zrw {α:Type} : ∀ (ns:List Nat) (cs:List α),cs.length=ns.sum→∃ ps:List (List α),ps.length=ns.length∧ps.flatten=cs∧∀ (i:Nat) (n:Nat),ns[i]? = Xa n→ps[i]? = Xa ((cs.drop (ns.take i).sum).take n)
 | [], cs, h => ⟨[], rfl, by simp at h; simp [h], by simp⟩
 | n :: ns, cs, h => by
  obtain ⟨ps,h1,h2,h3⟩:=Zrw ns (cs.drop n) (by simp only [Ue] at h;simp;omega)
  refine ⟨cs.take n::ps,by simp [h1],by rw [X5,h2,List.take_append_drop],fun i m hi=>?_⟩
  cases i with
  | zero => simp at hi; subst hi; simp
  | succ i =>
   have:=h3 i m (by simpa using hi)
   simp only [List.getElem?_cons_succ,this,List.take_succ_cons,Ue,List.drop_drop]
theorem ZaF {β:Type} {Q:Nat→β→Prop} : ∀ (n:Nat),(∀ i,i < n→∃ b,Q i b)→∃ l:List β,l.length=n∧∀ (i:Nat) (b:β),l[i]? = Xa b→Q i b
 | 0, _ => ⟨[], rfl, by simp⟩
 | n + 1, h => by
  obtain ⟨l,h1,h2⟩:=ZaF n fun i hi=>h i (by omega)
  obtain ⟨b,hb⟩:=h n (by omega)
  refine ⟨l++[b],by simp [h1],fun i c hc=>?_⟩
  by_cases hi:i < l.length
  ·rw [Xx hi] at hc
   exact h2 i c hc
  ·rw [Xy (by omega)] at hc
   have h0:i-l.length=0:=by
    have:=(Xk.1 hc).1
    simp at this
    omega
   rw [h0] at hc
   simp only [XB,Xf] at hc
   subst hc
   have:i=n:=by omega
   rw [this]
   exact hb
theorem ZeK {s:Nat} {cell:Nat→Option Value} : ∀ (l:List (List Value)) (o:Nat),(∀ (i:Nat) (us:List Value),l[i]? = Xa us→us.length=s∧∀ (k:Nat) (u:Value),us[k]? = Xa u→cell (o+i*s+k)=Xa u)→
  ∀ (j:Nat) (u:Value),l.flatten[j]? = Xa u→cell (o+j)=Xa u
 | [], o, _, j, u, h => by simp at h
 | us :: l, o, h, j, u, hj => by
  obtain ⟨h1,h2⟩:=h 0 us rfl
  rw [X5] at hj
  by_cases hlt:j < us.length
  ·rw [Xx hlt] at hj
   have:=h2 j u hj
   simpa using this
  ·rw [Xy (by omega)] at hj
   have:=ZeK l (o+s) (fun i us' hi=>by
    obtain ⟨g1,g2⟩:=h (i+1) us' (by simpa using hi)
    refine ⟨g1,fun k u' hk=>?_⟩
    have:=g2 k u' hk
    rw [Nat.add_mul,Nat.one_mul] at this
    rw [show o+s+i*s+k=o+(i*s+s)+k by omega]
    exact this) (j-us.length) u hj
   rw [show o+s+(j-us.length)=o+j by omega] at this
   exact this
theorem Zls {H:Type} {f:Func} {s:ChangeSpec} {apart fresh handsOn again:Bool} {W W':World} {args:Array Value} {v:Value} {ds gs:List (DataW H)} {before pa:List MemPlace} {P:Program} {enc:TypeId×Value→H}
  (hW:DataW.Whole enc P f.params.toList s.vars apart W args.toList ds gs before)
  (hres:∀ (b:Nat) (sp:Nat→Bool) (hd:Bool),DataW.TrodAll enc P W' b sp hd f.resultTypes.toList (v.resultList f.resultTypes.size) (s.fn H (ds++gs)).results [])
  (hargs:∀ sp:Nat→Bool,(∀ p∈before,sp p.block=Xb)→DataW.TrodAll enc P W' 0 sp Xb f.params.toList args.toList (s.fn H (ds++gs)).args pa)
  (hvars:∀ sp:Nat→Bool,(∀ p∈before,sp p.block=Xb)→DataW.TrodVars enc P W' sp s.vars (s.fn H (ds++gs)).vars [])
  (hps:before=pa++[]) (hk:W.keptBut W' (·∈before)) (hfz:∀ a:Addr,a.block < W.heap.size→W'.frozen? a=W.frozen? a)
  (hok:∀ (j:Nat) (t:TypeId) (r:Value),f.resultTypes[j]? = Xa t→(v.resultList f.resultTypes.size)[j]? = Xa r→Value.okWide P W' .any 0 t r) :
  s.post enc P f apart fresh handsOn again W args v W':=by
 have hin:∀ p∈before,p.block < W.heap.size:=fun p hp=>hW.lt p hp
 have hdec:∀ p∈before,(fun b=>decide (b < W.heap.size)) p.block=Xb:=fun p hp=>decide_eq_true (hin p hp)
 refine ⟨ds,gs,before,[],pa,[],hW,hres _ _ _,hargs _ hdec,hvars _ hdec,World.keptBut_mono (fun p hp=>⟨hp,?_⟩) hk,fun _=>?_⟩
 ·refine Or.inr (Or.inl ?_)
  rwa [hps,XJ] at hp
 ·have hWp:=hW
  obtain ⟨_,_,_,_,_,hz,hn⟩:=hWp
  refine ⟨hok,_,_,([]++pa)++[],⟨[]++pa,[],ChangeShapes.trodAll_append (hargs _ fun _ _=>rfl) (hres _ _ _),hvars _ fun _ _=>rfl,rfl,?_,?_⟩,?_⟩
  ·intro b off hp
   have hmem:MemPlace.cell b off∈before:=by rw [hps];simpa using hp
   rw [hfz _ (hin _ hmem)]
   exact hz b off hmem
  ·intro ha
   have h1:=hn ha
   rw [hps] at h1
   simpa using h1
  ·intro p hp _
   rw [hps]
   simpa using hp
section
variable {P:Program} {H:Type} {enc:TypeId×Value→H} {w:World} {sp:Nat→Bool} {held:Bool}
theorem ZiL:∀ (d n:Nat) (T:TypeId) (cs:List Value) (x:DataW H×List MemPlace),Zcs P d T=Xb→DataW.trod enc P w 0 sp held n T cs=Xa x→∃ avs,TyR P d T avs∧JH w (KU w) avs cs
 | 0, n, T, cs, x, hf, _ => by simp [Zcs] at hf
 | d + 1, n, T, cs, x, hf, h => by
  simp only [Zcs] at hf
  split at hf
  ·rename_i k hk
   obtain ⟨z,rfl,_,hw⟩:=DataW.trod_int hk h
   refine ⟨[.val (.int k z)],?_,rfl,by simp [AV.isCell],fun i c u hc hu=>?_⟩
   ·simp only [TyR,hk];exact ⟨z,rfl,hw⟩
   ·cases i with
    | zero => simp at hc hu; subst hc; subst hu; exact .val rfl
    | succ i => simp at hc
  ·rename_i hk
   obtain ⟨b,rfl,_⟩:=DataW.trod_bool hk h
   refine ⟨[.val (.bool b)],?_,rfl,by simp [AV.isCell],fun i c u hc hu=>?_⟩
   ·simp only [TyR,hk];exact ⟨b,rfl⟩
   ·cases i with
    | zero => simp at hc hu; subst hc; subst hu; exact .val rfl
    | succ i => simp at hc
  ·rename_i hk
   obtain ⟨s,rfl,_⟩:=DataW.trod_string hk h
   refine ⟨[.val (.string s)],?_,rfl,by simp [AV.isCell],fun i c u hc hu=>?_⟩
   ·simp only [TyR,hk];exact ⟨s,rfl⟩
   ·cases i with
    | zero => simp at hc hu; subst hc; subst hu; exact .val rfl
    | succ i => simp at hc
  ·rename_i e hk
   simp only [Xr,decide_eq_true_eq] at hf
   rcases DataW.trod_slice hk h with ⟨rfl,_⟩ | ⟨a,len,cap,Yw,rest,m,_,rfl,_,_,hlc,hcm,hel,hcells,_,_⟩
   ·refine ⟨[.slice Xc (P.cellsOf e) []],?_,rfl,by simp [AV.isCell],fun i c u hc hu=>?_⟩
    ·simp only [TyR,hk];exact ⟨[],rfl,by simp,by simp⟩
    ·cases i with
     | zero => simp at hc hu; subst hc; subst hu; exact .sliceN
     | succ i => simp at hc
   ·obtain ⟨l,hl1,hl2⟩:=ZaF (Q:=fun i (p:List Value×List AV)=>w.cells? 0 (a.add (i*P.cellsOf e)) (P.cellsOf e)=Xa p.1∧TyR P d e p.2∧JH w (KU w) p.2 p.1) len fun i hi=>by
     have h1:=hcells i hi
     obtain ⟨y,hy⟩:∃ y,Yw[i]? = Xa y:=⟨_,Xs (by omega)⟩
     rw [hy,Option.bind_eq_some_iff] at h1
     obtain ⟨us,h2,h3⟩:=h1
     obtain ⟨avs,h4,h5⟩:=ZiL d m e us y hf.1 h3
     exact ⟨(us,avs),h2,h4,h5⟩
    have hall:∀ p∈l,TyR P d e p.2∧JH w (KU w) p.2 p.1∧p.1.length=P.cellsOf e:=by
     intro p hp
     obtain ⟨i,hi⟩:=XP.1 hp
     obtain ⟨g1,g2,g3⟩:=hl2 i p hi
     exact ⟨g2,g3,(World.cells?_some g1).2.1⟩
    refine ⟨[.slice Xc (P.cellsOf e) (l.map (·.2))],?_,rfl,by simp [AV.isCell],fun i c u hc hu=>?_⟩
    ·simp only [TyR,hk]
     refine ⟨_,rfl,by simp;omega,fun y hy=>?_⟩
     obtain ⟨p,hp,rfl⟩:=Xj.1 hy
     exact (hall p hp).1
    ·cases i with
     | succ i => simp at hc
     | zero =>
      simp only [XB,Xf] at hc hu
      subst hc
      subst hu
      cases l with
      | nil =>
       have:len=0:=by simpa using hl1.symm
       subst this
       exact .sliceE (fun h=>by cases h)
      | cons p l' =>
       have hcell:∀ (j:Nat) (u:Value),((p::l').map (·.1)).flatten[j]? = Xa u→w.cell? ⟨a.block,a.off+j,Xe⟩=Xa u:=by
        refine ZeK (s:=P.cellsOf e) (cell:=fun o=>w.cell? ⟨a.block,o,Xe⟩) _ a.off fun i us hi=>?_
        rw [Xl] at hi
        cases hpi:(p::l')[i]? with
        | none => simp [hpi] at hi
        | some q =>
         simp only [hpi,Xw,Xf] at hi
         subst hi
         obtain ⟨g1,_,_⟩:=hl2 i q hpi
         obtain ⟨_,k2,k3⟩:=World.cells?_some g1
         refine ⟨k2,fun k u hu=>?_⟩
         have hk':k < P.cellsOf e:=by rw [← k2];exact (Xk.1 hu).1
         have:=k3 k hk'
         rw [hu] at this
         have hblk:((a.add (i*P.cellsOf e)).add k).block=a.block∧((a.add (i*P.cellsOf e)).add k).off=a.off+i*P.cellsOf e+k:=by
          unfold Addr.add
          split<;>split<;>simp_all
         have hspot:((a.add (i*P.cellsOf e)).add k).spot=Xe:=by
          unfold World.cell? at this
          split at this
          ·split at this
           ·cases this
           ·rename_i hs;simpa using hs
          ·cases this
         have heq:(a.add (i*P.cellsOf e)).add k=⟨a.block,a.off+i*P.cellsOf e+k,Xe⟩:=by
          rw [← hblk.1,← hblk.2,← hspot]
         rw [heq] at this
         exact this
       have hspot:a.spot=Xe:=by
        obtain ⟨g1,_,_⟩:=hl2 0 p rfl
        obtain ⟨_,k2,k3⟩:=World.cells?_some g1
        have:=k3 0 hf.2
        obtain ⟨u,hu⟩:∃ u,p.1[0]? = Xa u:=⟨_,Xs (by rw [k2];exact hf.2)⟩
        rw [hu] at this
        have ha:(a.add (0*P.cellsOf e)).add 0=a:=by simp [Addr.add]
        rw [ha] at this
        unfold World.cell? at this
        split at this
        ·split at this
         ·cases this
         ·rename_i hs;simpa using hs
        ·cases this
       have ha:a=⟨a.block,a.off,Xe⟩:=by rw [← hspot]
       have hlen:((p::l').map (·.2)).length=len:=by rw [List.length_map];exact hl1
       rw [ha,← hlen]
       have hrel:JH w (KU w) ((p::l').map (·.2)).flatten ((p::l').map (·.1)).flatten:=by
        refine JH.flat _ _ (by simp) fun i x us hx hus=>?_
        rw [Xl] at hx hus
        cases hpi:(p::l')[i]? with
        | none => simp [hpi] at hx
        | some q =>
         simp only [hpi,Xw,Xf] at hx hus
         subst hx
         subst hus
         exact (hl2 i q hpi).2.2
       have hsz:∀ x∈(p::l').map (·.2),x.length=P.cellsOf e:=by
        intro x hx
        obtain ⟨q,hq,rfl⟩:=Xj.1 hx
        obtain ⟨_,g2,g3⟩:=hall q hq
        rw [g2.1,g3]
       refine .sliceC (us:=((p::l').map (·.1)).flatten) hsz (fun x hx=>?_) (fun h=>by cases h) (by rw [hlen];exact hlc) (fun hne=>?_) ?_ hcell hrel.2.2
       ·obtain ⟨q,hq,rfl⟩:=Xj.1 hx
        exact (hall q hq).2.1.2.1
       ·have hpos:0 < (((p::l').map (·.1)).flatten).length:=List.length_pos_iff.2 hne
        have hlast:=hcell ((((p::l').map (·.1)).flatten).length-1) _ (Xs (by omega))
        have:=Zml hlast
        omega
       ·rw [← hrel.1,Zz _ _ hsz]
  ·rename_i fs hk
   simp only [Xr,decide_eq_true_eq,XE] at hf
   obtain ⟨⟨h1,h2⟩,h3⟩:=hf
   obtain ⟨xs,m,_,_,hlen,hxl,hparts⟩:=DataW.trod_struct hk h
   obtain ⟨ps,q1,q2,q3⟩:=Zrw (fs.toList.map fun f=>P.cellsOf f.type) cs (by rw [hlen,h2])
   have hps:ps.length=fs.size:=by rw [q1];simp
   obtain ⟨l,hl1,hl2⟩:=ZaF (Q:=fun i (avs:List AV)=>∃ (f:Field) (us:List Value),fs[i]? = Xa f∧ps[i]? = Xa us∧TyR P d f.type avs∧JH w (KU w) avs us) fs.size fun i hi=>by
    have hfi:fs[i]? = Xa fs[i]:=Array.getElem?_eq_getElem hi
    have hn:(fs.toList.map fun f=>P.cellsOf f.type)[i]? = Xa (P.cellsOf fs[i].type):=by simp [hi]
    have h4:=q3 i _ hn
    have h5:=hparts i _ hfi
    have hoff:=h3 (fs[i],i) (by rw [List.mem_zipIdx_iff_getElem?];simp [hi])
    simp only at hoff
    rw [hoff,List.map_take] at h5
    obtain ⟨y,hy⟩:∃ y,xs[i]? = Xa y:=⟨_,Xs (by omega)⟩
    rw [hy] at h5
    obtain ⟨avs,h6,h7⟩:=ZiL d m _ _ y (h1 fs[i] (by simp)) h5
    exact ⟨avs,fs[i],_,hfi,h4,h6,h7⟩
   refine ⟨l.flatten,?_,?_⟩
   ·simp only [TyR,hk]
    refine ⟨l,rfl,hl1,fun i f p hf hp=>?_⟩
    obtain ⟨f',us,g1,g2,g3,g4⟩:=hl2 i p hp
    rw [hf] at g1
    cases g1
    exact g3
   ·rw [← q2]
    refine JH.flat _ _ (by rw [hl1,hps]) fun i avs us ha hu=>?_
    obtain ⟨f',us',g1,g2,g3,g4⟩:=hl2 i avs ha
    rw [hu] at g2
    cases g2
    exact g4
  ·cases hf
def Zdb (P:Program) (d:Nat) (T:TypeId) (x:AV):Prop:=
 match P.underlying T with
 | some (.struct _) => ∃ cs, x = .agg cs ∧ TyR P d T cs
 | _ => x.isCell = Xb ∧ TyR P d T [x]
theorem Zpj {lim:Lm} {avs:List AV} {v:Value} (h:JH w lim avs [v]):∃ x,avs = [x]∧x.isCell=Xb∧Rep w lim x v:=by
 obtain ⟨x,rfl⟩:=List.length_eq_one_iff.1 (by simpa using h.1:avs.length=1)
 exact ⟨x,rfl,h.2.1 x (by simp),h.2.2 0 x v rfl rfl⟩
theorem Zqb {d:Nat} {T:TypeId} {v:Value} {x:DataW H} {ps:List MemPlace} {r:Reach} {base:Nat} (hf:Zcs P d T=Xb) (hok:Value.okWide P w r base T v)
  (h:DataW.Trod enc P w 0 sp held T v x ps):∃ y,Zdb P d T y∧∀ X σ k,ZQ P w (KU w) X σ k y v:=by
 obtain ⟨n,h⟩:=h
 obtain ⟨avs,h1,h2⟩:=ZiL d n T _ _ hf h
 cases d with
 | zero => simp [Zcs] at hf
 | succ d =>
  have one:v.cells.toList = [v]→(∀ fs,P.underlying T≠Xa (.struct fs))→∃ y,Zdb P (d+1) T y∧∀ X σ k,ZQ P w (KU w) X σ k y v:=by
   intro hv hns
   rw [hv] at h2
   obtain ⟨y,rfl,h3,h4⟩:=Zpj h2
   refine ⟨y,?_,fun X σ k=>(Ku h3 h4).2⟩
   unfold Zdb
   split
   ·rename_i fs hfs;exact (hns fs hfs).elim
   ·exact ⟨h3,h1⟩
  simp only [Zcs] at hf
  split at hf
  ·rename_i kd hk
   obtain ⟨z,hz,_⟩:=DataW.trod_int hk h
   refine one ?_ (by rw [hk];simp)
   simp only [Value.okWide,hk,Cell.okWide] at hok
   cases v<;>simp_all [Cell.ok,Value.cells]
  ·rename_i hk
   refine one ?_ (by rw [hk];simp)
   simp only [Value.okWide,hk,Cell.okWide] at hok
   cases v<;>simp_all [Cell.ok,Value.cells]
  ·rename_i hk
   refine one ?_ (by rw [hk];simp)
   simp only [Value.okWide,hk,Cell.okWide] at hok
   cases v<;>simp_all [Cell.ok,Value.cells]
  ·rename_i e hk
   refine one ?_ (by rw [hk];simp)
   simp only [Value.okWide,hk,Cell.okWide] at hok
   cases v<;>simp_all [Cell.ok,Value.cells]
  ·rename_i fs hk
   simp only [Value.okWide,hk] at hok
   obtain ⟨cs,rfl,_,_⟩:=hok
   refine ⟨.agg avs,?_,?_⟩
   ·unfold Zdb
    simp only [hk]
    exact ⟨avs,rfl,h1⟩
   ·have:cs=cs.toList.toArray:=by simp
    intro X σ k
    show Rep w (KU w) (.agg avs) (.agg cs)
    rw [this]
    exact .agg h2.1 h2.2.1 h2.2.2
  ·cases hf
theorem Zg1 {d:Nat} {r:Reach} {base:Nat} : ∀ (ts:List TypeId) (vs:List Value) (ds:List (DataW H)) (ps:List MemPlace),(∀ t∈ts,Zcs P d t=Xb)→
  (∀ (j:Nat) (t:TypeId) (v:Value),ts[j]? = Xa t→vs[j]? = Xa v→Value.okWide P w r base t v)→DataW.TrodAll enc P w 0 sp held ts vs ds ps→
  vs.length=ts.length∧∃ xs:List AV,xs.length=ts.length∧∀ (i:Nat) (t:TypeId) (x:AV) (v:Value),ts[i]? = Xa t→xs[i]? = Xa x→vs[i]? = Xa v→Zdb P d t x∧∀ X σ k,ZQ P w (KU w) X σ k x v
 | [], [], [], ps, _, _, _ => ⟨rfl, [], rfl, by simp⟩
 | t :: ts, v :: vs, x :: ds, ps, hf, hok, h => by
  obtain ⟨p,q,h1,h2,_⟩:=h
  obtain ⟨y,g1,g2⟩:=Zqb (hf t (by simp)) (hok 0 t v rfl rfl) h1
  obtain ⟨k1,xs,k2,k3⟩:=Zg1 ts vs ds q (fun t ht=>hf t (by simp [ht])) (fun j t' v' ht hv=>hok (j+1) t' v' (by simpa using ht) (by simpa using hv)) h2
  refine ⟨by simp [k1],y::xs,by simp [k2],fun i t' x' v' ht hx hv=>?_⟩
  cases i with
  | zero =>
   simp only [XB,Xf] at ht hx hv
   subst ht
   subst hx
   subst hv
   exact ⟨g1,g2⟩
  | succ i => exact k3 i t' x' v' (by simpa using ht) (by simpa using hx) (by simpa using hv)
 | [], _ :: _, _, _, _, _, h => h.elim
 | [], [], _ :: _, _, _, _, h => h.elim
 | _ :: _, [], _, _, _, _, h => h.elim
 | _ :: _, _ :: _, [], _, _, _, h => h.elim
theorem ZhA {w':World} {sp':Nat→Bool} (hl:laidOutB P=Xb):∀ (ts:List TypeId) (vs:List Value) (ds:List (DataW H)) (ps:List MemPlace),(∀ t∈ts,t < P.types.size∧P.readableRec t=Xb)→
  DataW.TrodAll enc P w 0 (fun _=>Xb) Xb ts vs ds ps→(∀ p∈ps,w.sameAt w' p)→(∀ p∈ps,sp' p.block=Xb)→DataW.TrodAll enc P w' 0 sp' Xb ts vs ds ps
 | [], [], [], _, _, h, _, _ => h
 | t :: ts, v :: vs, x :: ds, ps, ht, h, hs, hp => by
  obtain ⟨p,q,⟨n,h1⟩,h2,rfl⟩:=h
  refine ⟨p,q,⟨n,?_⟩,ZhA hl ts vs ds q (fun t' h'=>ht t' (by simp [h'])) h2 (fun z hz=>hs z (by simp [hz])) (fun z hz=>hp z (by simp [hz])),rfl⟩
  have hr:=(ht t (by simp)).2
  exact DataW.trod_stays (T:=InBook P t) (kids_book hl hr) (fun {t' e} h' hu=>book_sized hr h' hu) (fun h=>by cases h) ⟨(ht t (by simp)).1,book_self t⟩ h1 (fun z hz=>hs z (by simp [hz])) (fun z hz=>hp z (by simp [hz]))
 | [], _ :: _, _, _, _, h, _, _ => h.elim
 | [], [], _ :: _, _, _, h, _, _ => h.elim
 | _ :: _, [], _, _, _, h, _, _ => h.elim
 | _ :: _, _ :: _, [], _, _, h, _, _ => h.elim
def Zng (P:Program) (f:FuncId) (xs:List AV) (res:AV):Prop:=
 ∀ (w:World) (cargs:List Value),cargs.length≤xs.length→(∀ (i:Nat) (σ:Nat→AV),ZQ P w (KU w) (fun _ _=>Xe) σ i (ZE xs i) (cargs.getD i undef))→
  Calls P f cargs.toArray w fun e w'=>∃ v lim' st,e = .returned v∧V3 w (KU w) w' lim' (fun _=>False) st∧Rep w' lim' res v
theorem Zoj {w:World} {lim:Lm} {X:Nat→Nat→Option Nat} {P:Program} {outs:List AV} {z v:Value} {n:Nat} {cargs:List Value} (hol:outs.length=n) (h:∀ i,ZQ P w lim X (ZE (outs++[.val z])) i (ZE (outs++[.val z]) i) (ZbB n cargs v i)):Rep w lim (.val z) v:=by
 have h:=h n
 have h1:ZE (outs++[.val z]) n = .val z:=by
  simp only [ZE]
  rw [Xy (by omega),hol]
  simp
 have h2:ZbB n cargs v n=v:=if_pos rfl
 rw [h1,h2] at h
 exact h
theorem J3.entryS {P:Program} {f:FuncId} {xs outs:List AV} {z:Value} {p:Nat} (h:J3 P f (xs++(Xg p .dead++[.store []])) (.val z) outs) (hng:xs.countP AV.isG=0):Zng P f xs (.val z):=by
 intro w cargs hl hrel
 refine (h.2.2 w (KU w) (fun _ _=>Xe) cargs ?_ (fun i=>?_) (fun _ _ _ _ _ h=>by cases h) (fun _ _ _ h=>by cases h) (fun _ _ _=>rfl)).mono ?_
 ·have h1:(Xg p AV.dead).countP AV.isG=0:=List.countP_eq_zero.2 fun x hx=>by rw [(List.mem_replicate.1 hx).2];simp [AV.isG]
  have h2 : [AV.store []].countP AV.isG=1:=rfl
  rw [U4,U4,hng,h1,h2,Xu,Xu]
  simp only [List.length_replicate,List.length_singleton]
  omega
 ·rcases XF i xs.length with hi | hi
  ·have:ZE (xs++(Xg p .dead++[.store []])) i=ZE xs i:=by simp only [ZE];rw [Xx hi]
   rw [this]
   exact hrel i _
  ·have hc:ZE (xs++(Xg p .dead++[.store []])) i = .dead∨ZE (xs++(Xg p .dead++[.store []])) i = .store []:=by
    simp only [ZE]
    rw [Xy hi]
    rcases XF (i-xs.length) p with h1 | h1
    ·rw [Xx (by simpa using h1),List.getElem?_replicate,if_pos h1]
     exact .inl rfl
    ·rw [Xy (by simpa using h1)]
     cases hj:i-xs.length-(Xg p AV.dead).length with
     | zero => exact .inr rfl
     | succ j => exact .inl rfl
   rcases hc with hc | hc
   ·rw [hc]
    trivial
   ·rw [hc]
    exact ⟨fun _ _=>rfl,rfl,fun j row hr=>by simp at hr⟩
 ·rintro e w' ⟨v,lim',X',rfl,hst,hol,hr,_⟩
  exact ⟨v,lim',_,rfl,⟨hst.os,hst.tape,hst.output,hst.size,hst.frz,fun b hb _=>hst.blk b hb (by rintro ⟨_,_,h⟩;cases h),hst.ext,hst.t⟩,Zoj hol hr⟩
theorem ZgF {fn:Func} {f:FuncId} {s:ChangeSpec} {apart fresh handsOn again:Bool} {tb:TypeId} {d:Nat} (hl:laidOutB P=Xb) (hpar:∀ t∈fn.params.toList,Zcs P d t=Xb∧t < P.types.size∧P.readableRec t=Xb)
  (hres:fn.resultTypes = #[tb]) (htb:P.underlying tb=Xa .bool) (hvars:s.vars = []) (hs:∀ ds,ds.length=fn.params.size→s.fn H ds = { results:=[.lit (.bool Xb)],args:=ds })
  (hcall:∀ xs:List AV,xs.length=fn.params.toList.length→(∀ (i:Nat) (t:TypeId) (x:AV),fn.params.toList[i]? = Xa t→xs[i]? = Xa x→Zdb P d t x)→Zng P f xs (B Xb))
  (W:World) (base:Nat) (args:Array Value) (ds gs:List (DataW H)) (before:List MemPlace)
  (hval:∀ (j:Nat) t v,fn.params[j]? = Xa t→args[j]? = Xa v→Value.okWide P W .any base t v) (hW:DataW.Whole enc P fn.params.toList s.vars apart W args.toList ds gs before) :
  Calls P f args W fun e W'=>∃ v,e = .returned v∧s.post enc P fn apart fresh handsOn again W args v W':=by
 have hW':=hW
 obtain ⟨p,q,hA,hV,rfl,_,_⟩:=hW
 rw [hvars] at hV
 obtain ⟨rfl,rfl⟩:=ChangeShapes.trodVars_none hV
 obtain ⟨hlen,xs,hx1,hx2⟩:=Zg1 (r:=.any) (base:=base) _ _ _ _ (fun t ht=>(hpar t ht).1) (fun j t v ht hv=>hval j t v (by simpa using ht) (by simpa using hv)) hA
 have hdl:ds.length=fn.params.size:=by
  have:∀ (ts:List TypeId) (vs:List Value) (ds:List (DataW H)) (ps:List MemPlace),DataW.TrodAll enc P W 0 (fun _=>Xb) Xb ts vs ds ps→ds.length=ts.length:=by
   intro ts
   induction ts with
   | nil => intro vs ds ps h; cases vs <;> cases ds <;> simp_all [DataW.TrodAll]
   | cons t ts ih =>
    intro vs ds ps h
    cases vs with
    | nil => exact h.elim
    | cons v vs =>
     cases ds with
     | nil => exact h.elim
     | cons x ds => obtain ⟨_, _, _, h2, _⟩ := h; simp [ih _ _ _ h2]
  simpa using this _ _ _ _ hA
 have hc:=hcall xs hx1 fun i t x ht hx=>by
  obtain ⟨v,hv⟩:∃ v,args.toList[i]? = Xa v:=⟨_,Xs (by rw [hlen];exact (Xk.1 ht).1)⟩
  exact (hx2 i t x v ht hx hv).1
 have hng:xs.countP AV.isG=0:=by
  rw [List.countP_eq_zero]
  intro x hx hg
  obtain ⟨i,hi⟩:=XP.1 hx
  have hlt:=(Xk.1 hi).1
  obtain ⟨v,hv⟩:∃ v,args.toList[i]? = Xa v:=⟨_,Xs (by omega)⟩
  obtain ⟨t,ht⟩:∃ t,fn.params.toList[i]? = Xa t:=⟨_,Xs (by omega)⟩
  have hr:=(hx2 i t x v ht hi hv).2 (fun _ _=>Xe) (fun _=>.dead) 0
  have hty:=(hx2 i t x v ht hi hv).1
  cases x<;>simp [AV.isG] at hg
  ·obtain ⟨v',b,_,_,h,_⟩:=hr
   cases h
  ·unfold Zdb at hty
   split at hty
   ·obtain ⟨cs,h,_⟩:=hty;cases h
   ·cases hty.1
 have hcalls:=hc W args.toList (by rw [hlen,hx1];exact Nat.le_refl _) (fun i σ=>by
  cases hxi:xs[i]? with
  | none =>
   have:ZE xs i = .dead:=by simp [ZE,hxi]
   rw [this]
   trivial
  | some x =>
   have hi:=(Xk.1 hxi).1
   obtain ⟨v,hv⟩:∃ v,args.toList[i]? = Xa v:=⟨_,Xs (by omega)⟩
   obtain ⟨t,ht⟩:∃ t,fn.params.toList[i]? = Xa t:=⟨_,Xs (by omega)⟩
   have h1:ZE xs i=x:=by simp [ZE,hxi]
   have h2:args.toList.getD i undef=v:=by rw [List.getD_eq_getElem?_getD,hv];rfl
   rw [h1,h2]
   exact (hx2 i t x v ht hxi hv).2 _ _ _)
 rw [Array.toArray_toList] at hcalls
 refine hcalls.mono ?_
 rintro e W' ⟨v,lim',st,rfl,hst,hrep⟩
 have hv:v = .bool Xb:=KY hrep
 subst hv
 have hkept:∀ b,b < W.heap.size→W'.heap[b]? = W.heap[b]?:=fun b hb=>(hst.blk b hb fun h=>h).1
 have hsame:∀ z∈p++[],W.sameAt W' z:=by
  intro z hz
  have hlt:=hW'.lt z hz
  cases z with
  | cell b off =>
   show W'.cell? ⟨b,off,Xe⟩=W.cell? ⟨b,off,Xe⟩
   unfold World.cell?
   rw [hkept b hlt]
  | map b => exact hkept b hlt
 refine ⟨_,rfl,Zls (pa:=p) hW' (fun b sp hd=>?_) (fun sp hp=>?_) (fun sp _=>?_) rfl ?_ hst.frz ?_⟩
 ·rw [hs _ (by simpa using hdl),hres]
  exact ⟨[],[],⟨1,by simp [DataW.trod,htb,Value.cells]⟩,rfl,rfl⟩
 ·rw [hs _ (by simpa using hdl),XJ]
  exact ZhA hl _ _ _ _ (fun t ht=>(hpar t ht).2) hA (fun z hz=>hsame z (by simpa using hz)) (fun z hz=>hp z (by simpa using hz))
 ·rw [hs _ (by simpa using hdl),hvars]
  rfl
 ·refine ⟨hst.os,hst.output,fun i hi=>?_⟩
  rw [hkept i hi]
  cases W.heap[i]? with
  | none => rfl
  | some o => cases o <;> simp
 ·exact RowKit.ok_one hres rfl (RowKit.okWide_bool_mk htb Xb)
end
open Go
def blank:Char:=Char.ofNat 32
theorem Ziy (r:List Char):wordsSigns (blank::r) = []::wordsSigns r:=by
 show wordsSigns (Char.ofNat 32::r)=_
 rw [wordsSigns]
theorem ZiC (c:Char) (r:List Char) (h:c≠blank):wordsSigns (c::r)=match wordsSigns r with | w::ws=>(c::w)::ws | []=>[[c]]:=by
 rw [wordsSigns]
 ·rfl
 ·exact h
theorem WW (r:List Char):∀ (w:List Char),(w.all fun c=>c != blank)=Xb→wordsSigns (w++blank::r)=w::wordsSigns r
 | [], _ => Ziy r
 | c :: w, h => by
  rw [List.all_cons,Xr] at h
  rw [List.cons_append,ZiC c _ (by simpa using h.1),WW r w h.2]
theorem Zhu {L:List Char} (h1:((L.take 7).all fun c=>c != blank)=Xb) (h2:(((L.drop 8).take 64).all fun c=>c != blank)=Xb) (h3:(((L.drop 73).take 3).all fun c=>c != blank)=Xb)
  (hL : L = L.take 7 ++ blank :: ((L.drop 8).take 64 ++ blank :: ((L.drop 73).take 3 ++ blank :: L.drop 77))) (hm : ((L.take 7 == "harness".toList || L.take 7 == "ownmain".toList) && isSumSigns ((L.drop 8).take 64)) = Xb)
  (hc : (L.drop 73).take 3 = "cut".toList) : ∃ ws, behindMainWord (wordsSigns L) = "cut".toList :: ws := by
 refine ⟨wordsSigns (L.drop 77),?_⟩
 have h:wordsSigns L=L.take 7::(L.drop 8).take 64::(L.drop 73).take 3::wordsSigns (L.drop 77):=by
  rw [hL,WW _ _ h1,WW _ _ h2,WW _ _ h3,← hL]
 rw [h,behindMainWord,if_pos hm,hc]
theorem enters_of {P : Program} {ws : List (List Char)} (h : behindMainWord (wordsSigns P.initOrder.toList) = "cut".toList :: ws) (h1 : P.laysLater = Xc) (h2 : P.bearsReflect = Xc) (h3 : P.doorFits [] = Xb) : P.mayEnter = Xb := by
 unfold Program.mayEnter
 rw [h]
 have hs : stripLifts liftWords ("cut".toList :: ws) = ([], "cut".toList :: ws) := by kernel_rfl
 simp only [hs]
 simp [h1,h2,h3]
theorem lifts_of {P : Program} {ws : List (List Char)} (h : behindMainWord (wordsSigns P.initOrder.toList) = "cut".toList :: ws) : P.headLifts = [] := by
 unfold Program.headLifts
 rw [h]
 have hs : stripLifts liftWords ("cut".toList :: ws) = ([], "cut".toList :: ws) := by kernel_rfl
 simp only [hs]
 simp
theorem final_of {P : Program} {ws : List (List Char)} (h : behindMainWord (wordsSigns P.initOrder.toList) = "cut".toList :: ws) : P.liftsFinal = Xc := by
 unfold Program.liftsFinal
 rw [lifts_of h,h]
 have hs : ("cut".toList == "carried".toList) = Xc := by decide +kernel
 simp [hs]
theorem make_of {P : Program} {ws : List (List Char)} (h : behindMainWord (wordsSigns P.initOrder.toList) = "cut".toList :: ws) : P.make = Xa .cut := by
 unfold Program.make
 rw [h]
 simp
end Go.AM
namespace Go.Proofs.Ytpjnmgjphfnmmaa
open Go Go.AM
set_option maxRecDepth 100000
theorem behind : ∃ ws, behindMainWord (wordsSigns Try.prog.initOrder.toList) = "cut".toList :: ws := by
 have h:Try.prog.initOrder.toList=_:=String.toList_ofList (l:=_)
 rw [h]
 exact Zhu (by kernel_rfl) (by kernel_rfl) (by kernel_rfl) (by kernel_rfl) (by kernel_rfl) (by kernel_rfl)
theorem Ztn:Try.prog.mayEnter=Xb:=behind.elim fun _ h=>Go.AM.enters_of h (by kernel_rfl) (by kernel_rfl) (by kernel_rfl)
theorem Zvm:Try.prog.liftsFinal=Xc:=behind.elim fun _ h=>Go.AM.final_of h
theorem Zuf:Try.prog.make=Xa .cut:=behind.elim fun _ h=>Go.AM.make_of h
theorem laid:laidOutB Try.prog=Xb:=by kernel_rfl
theorem Zm8:ownKnob Try.prog.godebug=Xe:=by kernel_rfl
theorem ZhI {d:Nat} {cs:List AV} (h:TyR Try.prog (d+1) 3 cs):∃ z,cs = [I z]:=by
 simp only [TyR,Try.underlying3] at h
 obtain ⟨z,h,_⟩:=h
 exact ⟨z,h⟩
theorem ZrH {d:Nat} {cs:List AV} (h:TyR Try.prog (d+1) 4 cs):∃ z,cs = [B z]:=by
 simp only [TyR,Try.underlying4] at h
 exact h
theorem arg_int {x:AV} (h:Zdb Try.prog 8 3 x):∃ z,x=I z:=by
 simp only [Zdb,Try.underlying3] at h
 obtain ⟨z,hz⟩:=ZhI h.2
 exact ⟨z,by simpa using hz⟩
theorem Zg3 {α β:Type} {f:α→β} {p:α→Prop} : ∀ (xs:List β),(∀ x∈xs,∃ a,x=f a∧p a)→∃ l:List α,xs=l.map f∧∀ a∈l,p a
 | [], _ => ⟨[], rfl, by simp⟩
 | x :: xs, h => by
  obtain ⟨a,h1,h2⟩:=h x (by simp)
  obtain ⟨l,h3,h4⟩:=Zg3 xs fun y hy=>h y (by simp [hy])
  refine ⟨a::l,by rw [h1,h3];rfl,fun b hb=>?_⟩
  rcases Xp.1 hb with rfl | hb
  ·exact h2
  ·exact h4 b hb
def ZrS:List TypeId:=[3,4,22,23,46]
theorem ZvF (t:TypeId) (h:ZrS.contains t=Xb):Zcs Try.prog 8 t=Xb∧t < Try.prog.types.size∧Try.prog.readableRec t=Xb:=by
 have h2:ZrS.all (fun t=>Zcs Try.prog 8 t&&decide (t < Try.prog.types.size)&&Try.prog.readableRec t)=Xb:=by kernel_rfl
 rw [XE] at h2
 have:=h2 t (by simpa using h)
 simpa [and_assoc] using this
open Go Go.AM Go.W
set_option maxRecDepth 100000
theorem ZrQ:Try.prog.cellsOf 52=6:=by kernel_rfl
theorem Ztk {d:Nat} {cs:List AV} (h:TyR Try.prog (d+1) 9 cs):∃ s,cs = [.val (.string s)]:=by
 simp only [TyR,Try.underlying9] at h
 exact h
theorem ZsX {d:Nat} {cs:List AV} (h:TyR Try.prog (d+2) 52 cs):∃ s:ZrW,cs=stepc s:=by
 rw [TyR] at h
 simp only [Try.underlying52] at h
 obtain ⟨ps,rfl,hl,hp⟩:=h
 obtain ⟨p0,p1,p2,p3,p4,p5,rfl⟩:∃ p0 p1 p2 p3 p4 p5,ps = [p0,p1,p2,p3,p4,p5]:=by
  match ps,hl with
  | [p0, p1, p2, p3, p4, p5], _ => exact ⟨p0, p1, p2, p3, p4, p5, rfl⟩
 obtain ⟨a,rfl⟩:=ZhI (hp 0 _ _ rfl rfl)
 obtain ⟨b,rfl⟩:=ZhI (hp 1 _ _ rfl rfl)
 obtain ⟨c,rfl⟩:=ZhI (hp 2 _ _ rfl rfl)
 obtain ⟨e,rfl⟩:=ZhI (hp 3 _ _ rfl rfl)
 obtain ⟨f,rfl⟩:=ZrH (hp 4 _ _ rfl rfl)
 obtain ⟨g,rfl⟩:=Ztk (hp 5 _ _ rfl rfl)
 exact ⟨⟨a,b,c,e,f,g⟩,rfl⟩
theorem ZmJ {x:AV} (h:Zdb Try.prog 8 46 x):∃ l:List ZrW,x = .slice Xc 6 (l.map stepc)∧l.length≤maxLen:=by
 simp only [Zdb,Try.underlying46] at h
 have hh:=h.2
 rw [TyR] at hh
 simp only [Try.underlying46,ZrQ] at hh
 obtain ⟨xs,h1,h2,h3⟩:=hh
 obtain ⟨l,rfl,h5⟩:=Zg3 (f:=stepc) (p:=fun _=>True) xs fun y hy=>(ZsX (h3 y hy)).elim fun a h=>⟨a,h,trivial⟩
 exact ⟨l,by simpa using h1,by simpa using h2⟩
end Go.Proofs.Ytpjnmgjphfnmmaa
