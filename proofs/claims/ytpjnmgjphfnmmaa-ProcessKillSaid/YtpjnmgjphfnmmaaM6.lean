import Derived.Test.YtpjnmgjphfnmmaaZa
import Derived.Test.YtpjnmgjphfnmmaaFZ
import Derived.Test.YtpjnmgjphfnmmaaM4
import Derived.ChangeArms
import Derived.ChangeStays
import Derived.ChangeBook
import Derived.ChangeSame
import Derived.RowKit
import Derived.ChangeOld
import GoSem.ClaimJoined
import GoSem.ClaimOpenFrom
import Derived.KernelRfl
import Derived.Test.YtpjnmgjphfnmmaaRows
import Derived.Test.YtpjnmgjphfnmmaaChecked
import Derived.JoinedOf
import Derived.JoinedAt
import Derived.RowKit3
open Option renaming some→Xa,none→Xe,bind_some→Xh,map_some→Xv
open Bool renaming true→Xb,false→Xc,and_eq_true→Xs
open Option.some renaming injEq→Xf
open List renaming replicate→Xg,getElem?_eq_some_iff→Xj,mem_map→Xk,getElem?_map→Xl,getElem?_eq_getElem→Xr,length_append→Xu,getElem?_append_left→Xx,getElem?_append_right→Xy,getElem?_cons_zero→XB,all_eq_true→XD,append_nil→XI,mem_iff_getElem?→XP,flatten_cons→X4,sum_cons→Uc,countP_append→U2
open Nat renaming lt_or_ge→XE,le_trans→XJ
set_option linter.unusedVariables false
set_option linter.unusedSimpArgs false
set_option linter.defProp false
namespace Go.W
section
open Go Go.AM Go.Proofs.Ytpjnmgjphfnmmaa
set_option maxRecDepth 100000
variable {rows:LL} {F:Ym}
theorem Zka {c:AV} {zs:List Int} (h:IsI rows c zs) {x:LL} (hx:Ze x=c) (hl:zs.length≤1000) (v:Int):∀ (ks pre:List Int) (q:Nat),zs=pre++ks→ks.length < q→Zqd q x v (pre.length:Int) rows=Xa (decide (v∈ks),rows)
 | [], pre, q, hs, hq => by
  obtain ⟨q',rfl⟩:∃ q',q=q'+1:=⟨q-1,by simp at hq;omega⟩
  rw [XI] at hs
  rw [Zkv,Zb (ne1 (KU h hx)),YJ h hx,hs,if_neg (by simp [cop])]
  simp
 | z :: ks, pre, q, hs, hq => by
  obtain ⟨q',rfl⟩:∃ q',q=q'+1:=⟨q-1,by simp at hq;omega⟩
  have hz:zs[pre.length]? = Xa z:=by rw [hs];simp
  have hi:=(Xj.1 hz).1
  have hl1:((pre++[z]).length:Int)=((pre.length+1:Nat):Int):=by simp
  rw [Zkv,Zb (ne1 (KU h hx)),YJ h hx,if_pos (by simp [cop];omega),Zb (by omega),Zb (by omega),Zgi h hx hz,ZF,ZaB (by omega)]
  by_cases hv:z=v
  ·rw [if_pos (by simp [cop,hv])]
   simp [hv]
  ·have ih:=Zka h hx hl v ks (pre++[z]) q' (by rw [hs];simp) (by simp at hq;omega)
   rw [hl1] at ih
   rw [if_neg (by simp [cop,hv]),ih]
   simp [Ne.symm hv]
theorem s22 {c:AV} {zs:List Int} (h:IsI rows c zs) {x:LL} (hx:Ze x=c) (hl:zs.length≤1000) (v:Int):g22 x v rows=Xa (decide (v∈zs),rows):=by
 rw [ZuV]
 exact Zka h hx hl v zs [] Ju rfl (by unfold Ju;omega)
structure Kl (K:List Int) (e:PE) (o:Option PE):Prop where
 dead:e.p.id∈K→∀ e',o=Xa e'→e'.p.ended=Xb
 live:e.p.id∉K→e.p.ended=Xc→∃ e',o=Xa e'∧e'.p.ended=Xc
theorem kl {es:List PE} {last:Int} (ho:LOk es last) (K:List Int) {e:PE} (he:e∈es):Kl K e ((Zj (-1) es K).1.find? fun a=>decide (a.p.id=e.p.id)):=by
 have hl2:=Vj (st:=-1) K es ho
 refine ⟨fun hk e' hf=>?_,fun hk hen=>?_⟩
 ·have hr:=Zb4 (-1) K es ho _ hk
  unfold J0 at hr
  rw [hf] at hr
  dsimp only at hr
  cases hee:e'.p.ended with
  | true => rfl
  | false => rw [hee] at hr; simp at hr
 ·obtain ⟨e',he',hid⟩:=ZbV (-1) K es ho e he hen hk
  have hf:=Jn hl2.srt he'
  rw [hid] at hf
  refine ⟨e',hf,?_⟩
  obtain ⟨a,ha,h1,h2⟩:=Ky (-1) K es ho e' he'
  have:a=e:=Zs7 ho.srt ha he (h1.trans hid)
  subst this
  rcases h2 with ⟨h2,_⟩ | ⟨h2,_⟩
  ·rw [h2];exact hen
  ·exact absurd h2 hk
theorem Zsr {es:List PE} {last:Int} (ho:LOk es last) {e:PE} (he:e∈es):Kl [] e (es.find? fun a=>decide (a.p.id=e.p.id)):=
 ⟨fun hk=>(by cases hk),fun _ hen=>⟨e,Jn ho.srt he,hen⟩⟩
theorem ZoY {es es2:List PE} {b err:Int} {c1:AV} {below:List Int} (hl:es.length≤64) (h2l:es2.length≤64) (hI:IsI rows c1 below) (hc1:ZN c1=Xb) (hbl:below.length≤1000) (hk:∀ e∈es,Kl (if err=0 then b::below else []) e (es2.find? fun a=>decide (a.p.id=e.p.id))) (h:ZB rows F):∀ (ks pre:List PE) (q:Nat),es=pre++ks→ks.length < q→
  ∃ rows',Zpb q b ((es.map PE.p).map V6) [[c1]] err ((es2.map PE.p).map V6) (pre.length:Int) rows=Xa (Xb,rows')
 | [], pre, q, hs, hq => by
  obtain ⟨q',rfl⟩:∃ q',q=q'+1:=⟨q-1,by simp at hq;omega⟩
  rw [XI] at hs
  have hlen:(((es.map PE.p).map V6).length:Int)=(es.length:Int):=by simp
  obtain ⟨rows',hr⟩:=s15 h
  rw [Znn,hlen,hs,if_neg (by simp [cop]),hr]
  exact ⟨rows',rfl⟩
 | e :: ks, pre, q, hs, hq => by
  obtain ⟨q',rfl⟩:∃ q',q=q'+1:=⟨q-1,by simp at hq;omega⟩
  obtain ⟨rows',ih⟩:=ZoY hl h2l hI hc1 hbl hk h ks (pre++[e]) q' (by rw [hs];simp) (by simp at hq;omega)
  have he:e∈es:=by rw [hs];simp
  have hz:(es.map PE.p)[pre.length]? = Xa e.p:=by rw [hs];simp
  have hi:pre.length < es.length:=by rw [hs];simp
  have hlen:(((es.map PE.p).map V6).length:Int)=(es.length:Int):=by simp
  have hl1:((pre++[e]).length:Int)=((pre.length+1:Nat):Int):=by simp
  rw [hl1] at ih
  have k:=hk e he
  have hnx:iop .add .i64 (pre.length:Int) 1=((pre.length+1:Nat):Int):=ZaB (by omega)
  have hid:(v7 e.p).1=e.p.id:=rfl
  rw [Znn,hlen,if_pos (by simp [cop];omega),ZcY hz,hid,s20 _ (by simp;omega),Xh,Zrk,hnx]
  generalize es2.find? (fun a=>decide (a.p.id=e.p.id))=o at k ⊢
  have hN:e.p.id∉(if err=0 then b::below else [])→N5 q' b ((es.map PE.p).map V6) [[c1]] err ((es2.map PE.p).map V6) (pre.length:Int) (v7 e.p) (at8 (o.map PE.p)) rows=Xa (Xb,rows'):=fun hn=>by
   unfold N5
   rw [hnx]
   have hend:(v7 e.p).2.2.2.2.1=e.p.ended:=rfl
   rw [hend]
   cases hen:e.p.ended with
   | true =>
    rw [if_neg (by decide)]
    exact ih
   | false =>
    rw [if_pos (by decide)]
    obtain ⟨e',rfl,g1⟩:=k.live hn hen
    refine (if_neg (show ¬ ((!true)=Xb) by decide)).trans ?_
    exact (if_neg (show ¬ (e'.p.ended=Xb) by rw [g1];decide)).trans ih
  refine ⟨rows',?_⟩
  by_cases h0:err=0
  ·rw [if_pos (by simp [cop,h0])]
   rw [if_pos h0] at k hN
   by_cases hb:e.p.id=b
   ·rw [if_pos (by simp [cop,hb])]
    cases o with
    | none => exact (if_neg (show ¬ ((Xc : Bool) = Xb) by decide)).trans ih
    | some e' =>
     have g1:=k.dead (by simp [hb]) e' rfl
     refine (if_pos (show (Xb:Bool)=Xb from rfl)).trans ?_
     exact (if_neg (show ¬ ((!e'.p.ended)=Xb) by rw [g1];decide)).trans ih
   ·rw [if_neg (by simp [cop,hb]),s22 hI (Zl8 hc1) hbl,Xh]
    dsimp only
    by_cases hm:e.p.id∈below
    ·rw [decide_eq_true hm,if_pos rfl]
     cases o with
     | none => exact (if_neg (show ¬ ((Xc : Bool) = Xb) by decide)).trans ((if_neg (by decide)).trans ih)
     | some e' =>
      have g1:=k.dead (by simp [hm]) e' rfl
      refine (if_pos (show (Xb:Bool)=Xb from rfl)).trans ?_
      exact (if_neg (show ¬ ((!e'.p.ended)=Xb) by rw [g1];decide)).trans ((if_neg (by decide)).trans ih)
    ·rw [decide_eq_false hm,if_neg (by decide),if_pos (by decide)]
     exact hN (by simp [hb,hm])
  ·rw [if_neg (by simp [cop,h0])]
   rw [if_neg h0] at hN
   exact hN (by simp)
theorem Zm1 {c:AV} {zs:List Int} {G:Ym} (hq:(c = .osl 0 0 0)∨∃ j,c = .osl 3 (j+1) zs.length∧(j,Jw zs)∈G∧zs≠[]) (hz:c = .osl 0 0 0→zs = []) (h:ZB rows G):IsI rows c zs:=by
 rcases hq with hc | ⟨j,hc,hm,hn⟩
 ·exact .inl ⟨hc,hz hc⟩
 ·refine .inr ⟨j,[],hc,by rw [XI];exact h.get hm,fun hh=>?_⟩
  rw [XI] at hh
  exact hn (List.map_eq_nil_iff.1 hh)
theorem z5 {m:MS} {r:RS} (bo:Bo rows m r F) {x:LL} (hx:Ze x = .oref (m.jm+1) 0) (id target:Int):∃ rows',Z5 id target x Xb rows=Xa (Xb,rows'):=by
 obtain ⟨a0,ha,ha0,ha1⟩:=Zck id (n:=8) (by decide) (by decide)
 obtain ⟨b0,hb,hb0,hb1⟩:=Zck target (n:=8) (by decide) (by decide)
 have hcl':∀ e∈m.es,e.p.cores.length≤100000:=fun e he=>XJ (Znq bo.co e he) (by decide)
 have e1:iop .add .i64 1 a0=1+a0:=Zi7 (by omega) (by omega)
 have e2:iop .add .i64 1 b0=1+b0:=Zi7 (by omega) (by omega)
 obtain ⟨r1,F1,q1,q2⟩:=s14 bo.h bo.ok hx hcl'
 obtain ⟨r2,F2,c1,t1,t2,t3,t4,t5⟩:=s19 q2 bo.ok hx (1+b0)
 obtain ⟨r3,F3,c2,u1,u2,u3,u4,u5⟩:=s19 t5 bo.ok hx (1+a0)
 obtain ⟨r4,F4,v1,v2,v3⟩:=s21 u5 bo.ok hx (1+a0) (1+b0)
 have hco2:CO (J2 m.es (1+a0) (1+b0)).1.1:=by
  unfold J2
  split
  ·exact bo.co
  ·split
   ·exact bo.co
   ·split
    ·exact Zhw bo.co (Ky (-1) _ _ bo.lok)
    ·exact bo.co
 obtain ⟨r5,F5,w1,w2⟩:=s14 v2 v3 hx (fun e he=>XJ (Znq hco2 e he) (by decide))
 have hz1:c1 = .osl 0 0 0→Yz m.es (1+b0) = []:=fun hc=>by
  rcases t3 with ⟨_,h⟩ | ⟨j,rest,h,_⟩
  ·exact h
  ·rw [hc] at h;cases h
 have hz2:c2 = .osl 0 0 0→Yz m.es (1+a0) = []:=fun hc=>by
  rcases u3 with ⟨_,h⟩ | ⟨j,rest,h,_⟩
  ·exact h
  ·rw [hc] at h;cases h
 have hI1:IsI r5 c1 (Yz m.es (1+b0)):=Zm1 (t4.imp (fun h=>h) fun ⟨j,h1,_,h3,h4⟩=>⟨j,h1,by simp [h4],h3⟩) hz1 w2
 have hI2:IsI r5 c2 (Yz m.es (1+a0)):=Zm1 (u4.imp (fun h=>h) fun ⟨j,h1,_,h3,h4⟩=>⟨j,h1,by simp [h4],h3⟩) hz2 w2
 have hd1:=Zbl bo.ok (1+b0)
 have hd2:=Zbl bo.ok (1+a0)
 have hml:=bo.lok.len
 have hlk:(J2 m.es (1+a0) (1+b0)).1.1.length≤64:=v3.len
 -- the loop
 have hE:∀ err:Int,(J2 m.es (1+a0) (1+b0)).2=err→∃ rows',E5 (J2 m.es (1+a0) (1+b0)).2 err (1+b0) ((m.es.map PE.p).map V6) [[c1]] (((J2 m.es (1+a0) (1+b0)).1.1.map PE.p).map V6) r5=Xa (Xb,rows'):=fun err herr=>by
  unfold E5
  rw [herr,if_neg (by simp [cop])]
  refine ZoY (es:=m.es) hml hlk hI1 t2 (by omega) (fun e he=>?_) w2 m.es [] Ju rfl (by unfold Ju;omega)
  have same:err≠0→(J2 m.es (1+a0) (1+b0)).1.1=m.es→Kl (if err=0 then (1+b0)::Yz m.es (1+b0) else []) e ((J2 m.es (1+a0) (1+b0)).1.1.find? fun a=>decide (a.p.id=e.p.id)):=fun h0 hes=>by
   rw [if_neg h0,hes]
   exact Zsr bo.lok he
  unfold J2 at herr same ⊢
  cases hra:J0 m.es (1+a0) with
  | none =>
   rw [hra] at herr same
   exact same (by rw [← herr];show (17:Int)≠0;decide) rfl
  | some pa =>
   rw [hra] at herr same
   dsimp only at herr same ⊢
   cases hrb:J0 m.es (1+b0) with
   | none =>
    rw [hrb] at herr same
    exact same (by rw [← herr];show (17:Int)≠0;decide) rfl
   | some pb =>
    rw [hrb] at herr same
    dsimp only at herr same ⊢
    by_cases hm:1+b0=1+a0∨1+b0∈Yz m.es (1+a0)
    ·rw [if_pos hm] at herr ⊢
     have h0:err=0:=herr.symm
     rw [if_pos h0]
     exact kl bo.lok _ he
    ·rw [if_neg hm] at herr same ⊢
     exact same (by rw [← herr];show (8:Int)≠0;decide) rfl
 have hfind:∀ z,((m.es.map PE.p).find? fun p=>decide (p.id=z))=(m.es.find? fun e=>decide (e.p.id=z)).map PE.p:=Zrk m.es
 unfold Z5
 rw [if_neg (by decide),ha,Xh,hb,Xh,q1,Xh]
 dsimp only
 rw [e1,e2,t1,Xh]
 dsimp only
 rw [u1,Xh]
 dsimp only
 rw [s20 _ (by simp;omega),Xh,s20 _ (by simp;omega),Xh,v1,Xh]
 dsimp only
 rw [w1,Xh,hfind,hfind]
 dsimp only
 have hrun:∀ z,J0 m.es z=match m.es.find? fun e=>decide (e.p.id=z) with | some e=>if e.p.ended=Xb then Xe else Xa e | none=>Xe:=fun _=>rfl
 have hA:=hrun (1+a0)
 have hB:=hrun (1+b0)
 cases hfa:m.es.find? (fun e=>decide (e.p.id=1+a0)) with
 | none =>
  rw [hfa] at hA
  obtain ⟨rows',g⟩:=hE 17 (by unfold J2;rw [hA])
  exact ⟨rows',(if_pos (show (!false)=Xb from rfl)).trans g⟩
 | some pa =>
  rw [hfa] at hA
  dsimp only at hA
  by_cases hea:pa.p.ended=Xb
  ·rw [if_pos hea] at hA
   obtain ⟨rows',g⟩:=hE 17 (by unfold J2;rw [hA])
   exact ⟨rows',(if_neg (show ¬ ((!true)=Xb) by decide)).trans ((if_pos (show pa.p.ended=Xb from hea)).trans g)⟩
  ·rw [if_neg hea] at hA
   cases hfb:m.es.find? (fun e=>decide (e.p.id=1+b0)) with
   | none =>
    rw [hfb] at hB
    obtain ⟨rows',g⟩:=hE 17 (by unfold J2;rw [hA,hB])
    exact ⟨rows',(if_neg (show ¬ ((!true)=Xb) by decide)).trans ((if_neg (show ¬ pa.p.ended=Xb from hea)).trans ((if_pos (show (!false)=Xb from rfl)).trans g))⟩
   | some pb =>
    rw [hfb] at hB
    dsimp only at hB
    by_cases heb:pb.p.ended=Xb
    ·rw [if_pos heb] at hB
     obtain ⟨rows',g⟩:=hE 17 (by unfold J2;rw [hA,hB])
     exact ⟨rows',(if_neg (show ¬ ((!true)=Xb) by decide)).trans ((if_neg (show ¬ pa.p.ended=Xb from hea)).trans ((if_neg (show ¬ ((!true)=Xb) by decide)).trans ((if_pos (show pb.p.ended=Xb from heb)).trans g)))⟩
    ·rw [if_neg heb] at hB
     have pre:∀ {X Y:Option (Bool×LL)} {rows'},Y=Xa (Xb,rows')→(if (!(at8 (Xa pa.p)).2.2.2.2.2.2.2)=Xb then X else if (at8 (Xa pa.p)).2.2.2.2.1=Xb then X else if (!(at8 (Xa pb.p)).2.2.2.2.2.2.2)=Xb then X else if (at8 (Xa pb.p)).2.2.2.2.1=Xb then X else Y)=Xa (Xb,rows'):=fun g=>
      (if_neg (show ¬ ((!true)=Xb) by decide)).trans ((if_neg (show ¬ pa.p.ended=Xb from hea)).trans ((if_neg (show ¬ ((!true)=Xb) by decide)).trans ((if_neg (show ¬ pb.p.ended=Xb from heb)).trans g)))
     by_cases hab:1+b0=1+a0
     ·obtain ⟨rows',g⟩:=hE 0 (by unfold J2;rw [hA,hB];dsimp only;rw [if_pos (.inl hab)])
      exact ⟨rows',pre ((if_neg (show ¬ (cop .neq (1+a0) (1+b0)=Xb) by simp [cop,hab])).trans g)⟩
     ·by_cases hm:1+b0∈Yz m.es (1+a0)
      ·obtain ⟨rows',g⟩:=hE 0 (by unfold J2;rw [hA,hB];dsimp only;rw [if_pos (.inr hm)])
       refine ⟨rows',pre ((if_pos (show cop .neq (1+a0) (1+b0)=Xb by simp [cop];omega)).trans ?_)⟩
       rw [s22 hI2 (Zl8 u2) (by omega),Xh,decide_eq_true hm]
       exact g
      ·obtain ⟨rows',g⟩:=hE 8 (by unfold J2;rw [hA,hB];dsimp only;rw [if_neg (fun hh=>hh.elim hab hm)])
       refine ⟨rows',pre ((if_pos (show cop .neq (1+a0) (1+b0)=Xb by simp [cop];omega)).trans ?_)⟩
       rw [s22 hI2 (Zl8 u2) (by omega),Xh,decide_eq_false hm]
       exact g
theorem Zim (ss:List Zr8) (id target:Int) {x y:LL} : ∀ (d i:Nat) (m:MS) (r:RS) (rows:LL) (F:Ym) (q:Nat),i+d=80→Bo rows m r F→Ze x = .oref (m.jm+1) 0→Ze y = .oref (r.jr+1) 0→m.last≤(i:Int)+1→d < q→
  ∃ rows',Zu1 q (ss.map stepc) id target x y Xb (i:Int) rows=Xa (Xb,rows')
 | 0, i, m, r, rows, F, q, hd, b, hx, hy, hl, hq => by
  obtain ⟨q',rfl⟩:∃ q',q=q'+1:=⟨q-1,by omega⟩
  obtain ⟨r',hr⟩:=z5 b hx id target
  refine ⟨r',?_⟩
  rw [ZiQ,if_pos rfl,hr]
  split
  ·rw [if_neg (by simp [cop];omega)]
  ·rfl
 | d + 1, i, m, r, rows, F, q, hd, b, hx, hy, hl, hq => by
  obtain ⟨q',rfl⟩:∃ q',q=q'+1:=⟨q-1,by omega⟩
  have hlen:((ss.map stepc).length:Int)=(ss.length:Int):=by simp
  by_cases hi:i < ss.length
  ·have hz:=Xr hi
   obtain ⟨rows2,m',r',F',q1,q2,q3,q4,q5,q6⟩:=s17 b hx hy (by omega) ss[i].k ss[i].a ss[i].b ss[i].c ss[i].raw ss[i].nm
   rw [ZiQ,if_pos rfl,hlen,if_pos (by simp [cop];omega),if_pos (by simp [cop];omega),ZoO hz,q1,Xh,ZaB (by omega)]
   exact Zim ss id target d (i+1) m' r' rows2 F' q' (by omega) q2 (by rw [q3];exact hx) (by rw [q4];exact hy) (by omega) (by omega)
  ·obtain ⟨r',hr⟩:=z5 b hx id target
   refine ⟨r',?_⟩
   rw [ZiQ,if_pos rfl,hlen,if_neg (by simp [cop];omega),hr]
theorem s5 (core:Int) (ss:List Zr8) (id target:Int):∃ rows',g5 core (ss.map stepc) id target E0=Xa (Xb,rows'):=by
 have h:ZB E0 []:=⟨List.nodup_nil,fun p hp=>by cases hp⟩
 obtain ⟨r1,m,r,F',j,c,z,q1,q2,q3,q4,q5⟩:=s16 h core
 rw [Zvl,q1,Xh]
 exact Zim ss id target 80 0 m r r1 F' Ju rfl q2 rfl rfl (by rw [q4];decide) (by unfold Ju;omega)
end
end Go.W
namespace Go.AM
def TyR (P:Program):Nat→TypeId→List AV→Prop
 | 0, _, _ => False
 | d + 1, T, cs =>
  match P.underlying T with
  | some (.int k) => ∃ z, cs = [.val (.int k z)] ∧ (Lit.int k z).wf = Xb
  | some .bool => ∃ b, cs = [.val (.bool b)]
  | some .string => ∃ s, cs = [.val (.string s)]
  | some (.slice e) => ∃ xs : List (List AV), cs = [.slice Xc (P.cellsOf e) xs] ∧ xs.length ≤ maxLen ∧ ∀ x ∈ xs, TyR P d e x
  | some (.struct fs) => ∃ parts : List (List AV), cs = parts.flatten ∧ parts.length = fs.size ∧ ∀ (i : Nat) (f : Field) (p : List AV), fs[i]? = Xa f → parts[i]? = Xa p → TyR P d f.type p
  | _ => False
def Zct (P:Program):Nat→TypeId→Bool
 | 0, _ => Xc
 | d + 1, T =>
  match P.underlying T with
  | some (.int _) => Xb
  | some .bool => Xb
  | some .string => Xb
  | some (.slice e) => Zct P d e && decide (0 < P.cellsOf e)
  | some (.struct fs) => (fs.toList.all fun f => Zct P d f.type) && decide (P.cellsOf T = (fs.toList.map fun f => P.cellsOf f.type).sum) &&
    (fs.toList.zipIdx.all fun p=>decide (p.1.offset=((fs.toList.take p.2).map fun f=>P.cellsOf f.type).sum))
  | _ => Xc
def KQ (w:World):Lm:=⟨fun b=>match w.heap[b]? with | some (.cells c _ _)=>c.size | _=>0,fun _=>Xe⟩
theorem Zm9 {w:World} {b o:Nat} {u:Value} (h:w.cell? ⟨b,o,Xe⟩=Xa u):o < KQ w b:=by
 unfold World.cell? at h
 unfold KQ
 dsimp only
 split at h
 ·rename_i c t fr hc
  have h':c[o]? = Xa u:=by simpa using h
  have hc':w.heap[b]? = Xa (.cells c t fr):=hc
  rw [hc']
  exact (Array.getElem?_eq_some_iff.1 h').1
 ·cases h
theorem JH.flat {w:World} {lim:Lm} : ∀ (aZ:List (List AV)) (us:List (List Value)),aZ.length=us.length→(∀ (i:Nat) (a:List AV) (u:List Value),aZ[i]? = Xa a→us[i]? = Xa u→JH w lim a u)→JH w lim aZ.flatten us.flatten
 | [], [], _, _ => JH.nil w lim
 | [], _ :: _, h, _ => by simp at h
 | _ :: _, [], h, _ => by simp at h
 | a :: aZ, u :: us, h, hr => by
  have h1:=hr 0 a u rfl rfl
  have h2:=JH.flat aZ us (by simpa using h) fun i a' u' ha hu=>hr (i+1) a' u' (by simpa using ha) (by simpa using hu)
  refine ⟨by simp [h1.1,h2.1],fun c hc=>?_,fun i c v hc hv=>?_⟩
  ·rw [X4,List.mem_append] at hc
   rcases hc with hc | hc
   ·exact h1.2.1 c hc
   ·exact h2.2.1 c hc
  ·rw [X4] at hc hv
   by_cases hi:i < a.length
   ·rw [Xx hi] at hc
    rw [Xx (by rw [← h1.1];exact hi)] at hv
    exact h1.2.2 i c v hc hv
   ·rw [Xy (by omega)] at hc
    rw [Xy (by rw [← h1.1];omega),← h1.1] at hv
    exact h2.2.2 _ c v hc hv
theorem ZqQ {α:Type} : ∀ (ns:List Nat) (cs:List α),cs.length=ns.sum→∃ ps:List (List α),ps.length=ns.length∧ps.flatten=cs∧∀ (i:Nat) (n:Nat),ns[i]? = Xa n→ps[i]? = Xa ((cs.drop (ns.take i).sum).take n)
 | [], cs, h => ⟨[], rfl, by simp at h; simp [h], by simp⟩
 | n :: ns, cs, h => by
  obtain ⟨ps,h1,h2,h3⟩:=ZqQ ns (cs.drop n) (by simp only [Uc] at h;simp;omega)
  refine ⟨cs.take n::ps,by simp [h1],by rw [X4,h2,List.take_append_drop],fun i m hi=>?_⟩
  cases i with
  | zero => simp at hi; subst hi; simp
  | succ i =>
   have:=h3 i m (by simpa using hi)
   simp only [List.getElem?_cons_succ,this,List.take_succ_cons,Uc,List.drop_drop]
theorem Zax {β:Type} {Q:Nat→β→Prop} : ∀ (n:Nat),(∀ i,i < n→∃ b,Q i b)→∃ l:List β,l.length=n∧∀ (i:Nat) (b:β),l[i]? = Xa b→Q i b
 | 0, _ => ⟨[], rfl, by simp⟩
 | n + 1, h => by
  obtain ⟨l,h1,h2⟩:=Zax n fun i hi=>h i (by omega)
  obtain ⟨b,hb⟩:=h n (by omega)
  refine ⟨l++[b],by simp [h1],fun i c hc=>?_⟩
  by_cases hi:i < l.length
  ·rw [Xx hi] at hc
   exact h2 i c hc
  ·rw [Xy (by omega)] at hc
   have h0:i-l.length=0:=by
    have:=(Xj.1 hc).1
    simp at this
    omega
   rw [h0] at hc
   simp only [XB,Xf] at hc
   subst hc
   have:i=n:=by omega
   rw [this]
   exact hb
theorem Ze8 {s:Nat} {cell:Nat→Option Value} : ∀ (l:List (List Value)) (o:Nat),(∀ (i:Nat) (us:List Value),l[i]? = Xa us→us.length=s∧∀ (k:Nat) (u:Value),us[k]? = Xa u→cell (o+i*s+k)=Xa u)→
  ∀ (j:Nat) (u:Value),l.flatten[j]? = Xa u→cell (o+j)=Xa u
 | [], o, _, j, u, h => by simp at h
 | us :: l, o, h, j, u, hj => by
  obtain ⟨h1,h2⟩:=h 0 us rfl
  rw [X4] at hj
  by_cases hlt:j < us.length
  ·rw [Xx hlt] at hj
   have:=h2 j u hj
   simpa using this
  ·rw [Xy (by omega)] at hj
   have:=Ze8 l (o+s) (fun i us' hi=>by
    obtain ⟨g1,g2⟩:=h (i+1) us' (by simpa using hi)
    refine ⟨g1,fun k u' hk=>?_⟩
    have:=g2 k u' hk
    rw [Nat.add_mul,Nat.one_mul] at this
    rw [show o+s+i*s+k=o+(i*s+s)+k by omega]
    exact this) (j-us.length) u hj
   rw [show o+s+(j-us.length)=o+j by omega] at this
   exact this
theorem ZlT {H:Type} {f:Func} {s:ChangeSpec} {apart fresh handsOn again:Bool} {W W':World} {args:Array Value} {v:Value} {ds gs:List (DataW H)} {before pa:List MemPlace} {P:Program} {enc:TypeId×Value→H}
  (hW:DataW.Whole enc P f.params.toList s.vars apart W args.toList ds gs before)
  (hres:∀ (b:Nat) (sp:Nat→Bool) (hd:Bool),DataW.TrodAll enc P W' b sp hd f.resultTypes.toList (v.resultList f.resultTypes.size) (s.fn H (ds++gs)).results [])
  (hargs:∀ sp:Nat→Bool,(∀ p∈before,sp p.block=Xb)→DataW.TrodAll enc P W' 0 sp Xb f.params.toList args.toList (s.fn H (ds++gs)).args pa)
  (hvars:∀ sp:Nat→Bool,(∀ p∈before,sp p.block=Xb)→DataW.TrodVars enc P W' sp s.vars (s.fn H (ds++gs)).vars [])
  (hps:before=pa++[]) (hk:W.keptBut W' (·∈before)) (hfz:∀ a:Addr,a.block < W.heap.size→W'.frozen? a=W.frozen? a)
  (hok:∀ (j:Nat) (t:TypeId) (r:Value),f.resultTypes[j]? = Xa t→(v.resultList f.resultTypes.size)[j]? = Xa r→Value.okWide P W' .any 0 t r) :
  s.post enc P f apart fresh handsOn again W args v W':=by
 have hin:∀ p∈before,p.block < W.heap.size:=fun p hp=>hW.lt p hp
 have hdec:∀ p∈before,(fun b=>decide (b < W.heap.size)) p.block=Xb:=fun p hp=>decide_eq_true (hin p hp)
 refine ⟨ds,gs,before,[],pa,[],hW,hres _ _ _,hargs _ hdec,hvars _ hdec,World.keptBut_mono (fun p hp=>⟨hp,?_⟩) hk,fun _=>?_⟩
 ·refine Or.inr (Or.inl ?_)
  rwa [hps,XI] at hp
 ·have hWp:=hW
  obtain ⟨_,_,_,_,_,hz,hn⟩:=hWp
  refine ⟨hok,_,_,([]++pa)++[],⟨[]++pa,[],ChangeShapes.trodAll_append (hargs _ fun _ _=>rfl) (hres _ _ _),hvars _ fun _ _=>rfl,rfl,?_,?_⟩,?_⟩
  ·intro b off hp
   have hmem:MemPlace.cell b off∈before:=by rw [hps];simpa using hp
   rw [hfz _ (hin _ hmem)]
   exact hz b off hmem
  ·intro ha
   have h1:=hn ha
   rw [hps] at h1
   simpa using h1
  ·intro p hp _
   rw [hps]
   simpa using hp
section
variable {P:Program} {H:Type} {enc:TypeId×Value→H} {w:World} {sp:Nat→Bool} {held:Bool}
theorem Zjm:∀ (d n:Nat) (T:TypeId) (cs:List Value) (x:DataW H×List MemPlace),Zct P d T=Xb→DataW.trod enc P w 0 sp held n T cs=Xa x→∃ avs,TyR P d T avs∧JH w (KQ w) avs cs
 | 0, n, T, cs, x, hf, _ => by simp [Zct] at hf
 | d + 1, n, T, cs, x, hf, h => by
  simp only [Zct] at hf
  split at hf
  ·rename_i k hk
   obtain ⟨z,rfl,_,hw⟩:=DataW.trod_int hk h
   refine ⟨[.val (.int k z)],?_,rfl,by simp [AV.isCell],fun i c u hc hu=>?_⟩
   ·simp only [TyR,hk];exact ⟨z,rfl,hw⟩
   ·cases i with
    | zero => simp at hc hu; subst hc; subst hu; exact .val rfl
    | succ i => simp at hc
  ·rename_i hk
   obtain ⟨b,rfl,_⟩:=DataW.trod_bool hk h
   refine ⟨[.val (.bool b)],?_,rfl,by simp [AV.isCell],fun i c u hc hu=>?_⟩
   ·simp only [TyR,hk];exact ⟨b,rfl⟩
   ·cases i with
    | zero => simp at hc hu; subst hc; subst hu; exact .val rfl
    | succ i => simp at hc
  ·rename_i hk
   obtain ⟨s,rfl,_⟩:=DataW.trod_string hk h
   refine ⟨[.val (.string s)],?_,rfl,by simp [AV.isCell],fun i c u hc hu=>?_⟩
   ·simp only [TyR,hk];exact ⟨s,rfl⟩
   ·cases i with
    | zero => simp at hc hu; subst hc; subst hu; exact .val rfl
    | succ i => simp at hc
  ·rename_i e hk
   simp only [Xs,decide_eq_true_eq] at hf
   rcases DataW.trod_slice hk h with ⟨rfl,_⟩ | ⟨a,len,cap,YF,rest,m,_,rfl,_,_,hlc,hcm,hel,hcells,_,_⟩
   ·refine ⟨[.slice Xc (P.cellsOf e) []],?_,rfl,by simp [AV.isCell],fun i c u hc hu=>?_⟩
    ·simp only [TyR,hk];exact ⟨[],rfl,by simp,by simp⟩
    ·cases i with
     | zero => simp at hc hu; subst hc; subst hu; exact .sliceN
     | succ i => simp at hc
   ·obtain ⟨l,hl1,hl2⟩:=Zax (Q:=fun i (p:List Value×List AV)=>w.cells? 0 (a.add (i*P.cellsOf e)) (P.cellsOf e)=Xa p.1∧TyR P d e p.2∧JH w (KQ w) p.2 p.1) len fun i hi=>by
     have h1:=hcells i hi
     obtain ⟨y,hy⟩:∃ y,YF[i]? = Xa y:=⟨_,Xr (by omega)⟩
     rw [hy,Option.bind_eq_some_iff] at h1
     obtain ⟨us,h2,h3⟩:=h1
     obtain ⟨avs,h4,h5⟩:=Zjm d m e us y hf.1 h3
     exact ⟨(us,avs),h2,h4,h5⟩
    have hall:∀ p∈l,TyR P d e p.2∧JH w (KQ w) p.2 p.1∧p.1.length=P.cellsOf e:=by
     intro p hp
     obtain ⟨i,hi⟩:=XP.1 hp
     obtain ⟨g1,g2,g3⟩:=hl2 i p hi
     exact ⟨g2,g3,(World.cells?_some g1).2.1⟩
    refine ⟨[.slice Xc (P.cellsOf e) (l.map (·.2))],?_,rfl,by simp [AV.isCell],fun i c u hc hu=>?_⟩
    ·simp only [TyR,hk]
     refine ⟨_,rfl,by simp;omega,fun y hy=>?_⟩
     obtain ⟨p,hp,rfl⟩:=Xk.1 hy
     exact (hall p hp).1
    ·cases i with
     | succ i => simp at hc
     | zero =>
      simp only [XB,Xf] at hc hu
      subst hc
      subst hu
      cases l with
      | nil =>
       have:len=0:=by simpa using hl1.symm
       subst this
       exact .sliceE (fun h=>by cases h)
      | cons p l' =>
       have hcell:∀ (j:Nat) (u:Value),((p::l').map (·.1)).flatten[j]? = Xa u→w.cell? ⟨a.block,a.off+j,Xe⟩=Xa u:=by
        refine Ze8 (s:=P.cellsOf e) (cell:=fun o=>w.cell? ⟨a.block,o,Xe⟩) _ a.off fun i us hi=>?_
        rw [Xl] at hi
        cases hpi:(p::l')[i]? with
        | none => simp [hpi] at hi
        | some q =>
         simp only [hpi,Xv,Xf] at hi
         subst hi
         obtain ⟨g1,_,_⟩:=hl2 i q hpi
         obtain ⟨_,k2,k3⟩:=World.cells?_some g1
         refine ⟨k2,fun k u hu=>?_⟩
         have hk':k < P.cellsOf e:=by rw [← k2];exact (Xj.1 hu).1
         have:=k3 k hk'
         rw [hu] at this
         have hblk:((a.add (i*P.cellsOf e)).add k).block=a.block∧((a.add (i*P.cellsOf e)).add k).off=a.off+i*P.cellsOf e+k:=by
          unfold Addr.add
          split<;>split<;>simp_all
         have hspot:((a.add (i*P.cellsOf e)).add k).spot=Xe:=by
          unfold World.cell? at this
          split at this
          ·split at this
           ·cases this
           ·rename_i hs;simpa using hs
          ·cases this
         have heq:(a.add (i*P.cellsOf e)).add k=⟨a.block,a.off+i*P.cellsOf e+k,Xe⟩:=by
          rw [← hblk.1,← hblk.2,← hspot]
         rw [heq] at this
         exact this
       have hspot:a.spot=Xe:=by
        obtain ⟨g1,_,_⟩:=hl2 0 p rfl
        obtain ⟨_,k2,k3⟩:=World.cells?_some g1
        have:=k3 0 hf.2
        obtain ⟨u,hu⟩:∃ u,p.1[0]? = Xa u:=⟨_,Xr (by rw [k2];exact hf.2)⟩
        rw [hu] at this
        have ha:(a.add (0*P.cellsOf e)).add 0=a:=by simp [Addr.add]
        rw [ha] at this
        unfold World.cell? at this
        split at this
        ·split at this
         ·cases this
         ·rename_i hs;simpa using hs
        ·cases this
       have ha:a=⟨a.block,a.off,Xe⟩:=by rw [← hspot]
       have hlen:((p::l').map (·.2)).length=len:=by rw [List.length_map];exact hl1
       rw [ha,← hlen]
       have hrel:JH w (KQ w) ((p::l').map (·.2)).flatten ((p::l').map (·.1)).flatten:=by
        refine JH.flat _ _ (by simp) fun i x us hx hus=>?_
        rw [Xl] at hx hus
        cases hpi:(p::l')[i]? with
        | none => simp [hpi] at hx
        | some q =>
         simp only [hpi,Xv,Xf] at hx hus
         subst hx
         subst hus
         exact (hl2 i q hpi).2.2
       have hsz:∀ x∈(p::l').map (·.2),x.length=P.cellsOf e:=by
        intro x hx
        obtain ⟨q,hq,rfl⟩:=Xk.1 hx
        obtain ⟨_,g2,g3⟩:=hall q hq
        rw [g2.1,g3]
       refine .sliceC (us:=((p::l').map (·.1)).flatten) hsz (fun x hx=>?_) (fun h=>by cases h) (by rw [hlen];exact hlc) (fun hne=>?_) ?_ hcell hrel.2.2
       ·obtain ⟨q,hq,rfl⟩:=Xk.1 hx
        exact (hall q hq).2.1.2.1
       ·have hpos:0 < (((p::l').map (·.1)).flatten).length:=List.length_pos_iff.2 hne
        have hlast:=hcell ((((p::l').map (·.1)).flatten).length-1) _ (Xr (by omega))
        have:=Zm9 hlast
        omega
       ·rw [← hrel.1,ZA _ _ hsz]
  ·rename_i fs hk
   simp only [Xs,decide_eq_true_eq,XD] at hf
   obtain ⟨⟨h1,h2⟩,h3⟩:=hf
   obtain ⟨xs,m,_,_,hlen,hxl,hparts⟩:=DataW.trod_struct hk h
   obtain ⟨ps,q1,q2,q3⟩:=ZqQ (fs.toList.map fun f=>P.cellsOf f.type) cs (by rw [hlen,h2])
   have hps:ps.length=fs.size:=by rw [q1];simp
   obtain ⟨l,hl1,hl2⟩:=Zax (Q:=fun i (avs:List AV)=>∃ (f:Field) (us:List Value),fs[i]? = Xa f∧ps[i]? = Xa us∧TyR P d f.type avs∧JH w (KQ w) avs us) fs.size fun i hi=>by
    have hfi:fs[i]? = Xa fs[i]:=Array.getElem?_eq_getElem hi
    have hn:(fs.toList.map fun f=>P.cellsOf f.type)[i]? = Xa (P.cellsOf fs[i].type):=by simp [hi]
    have h4:=q3 i _ hn
    have h5:=hparts i _ hfi
    have hoff:=h3 (fs[i],i) (by rw [List.mem_zipIdx_iff_getElem?];simp [hi])
    simp only at hoff
    rw [hoff,List.map_take] at h5
    obtain ⟨y,hy⟩:∃ y,xs[i]? = Xa y:=⟨_,Xr (by omega)⟩
    rw [hy] at h5
    obtain ⟨avs,h6,h7⟩:=Zjm d m _ _ y (h1 fs[i] (by simp)) h5
    exact ⟨avs,fs[i],_,hfi,h4,h6,h7⟩
   refine ⟨l.flatten,?_,?_⟩
   ·simp only [TyR,hk]
    refine ⟨l,rfl,hl1,fun i f p hf hp=>?_⟩
    obtain ⟨f',us,g1,g2,g3,g4⟩:=hl2 i p hp
    rw [hf] at g1
    cases g1
    exact g3
   ·rw [← q2]
    refine JH.flat _ _ (by rw [hl1,hps]) fun i avs us ha hu=>?_
    obtain ⟨f',us',g1,g2,g3,g4⟩:=hl2 i avs ha
    rw [hu] at g2
    cases g2
    exact g4
  ·cases hf
def Zd1 (P:Program) (d:Nat) (T:TypeId) (x:AV):Prop:=
 match P.underlying T with
 | some (.struct _) => ∃ cs, x = .agg cs ∧ TyR P d T cs
 | _ => x.isCell = Xb ∧ TyR P d T [x]
theorem ZpM {lim:Lm} {avs:List AV} {v:Value} (h:JH w lim avs [v]):∃ x,avs = [x]∧x.isCell=Xb∧Rep w lim x v:=by
 obtain ⟨x,rfl⟩:=List.length_eq_one_iff.1 (by simpa using h.1:avs.length=1)
 exact ⟨x,rfl,h.2.1 x (by simp),h.2.2 0 x v rfl rfl⟩
theorem Zpo {d:Nat} {T:TypeId} {v:Value} {x:DataW H} {ps:List MemPlace} {r:Reach} {base:Nat} (hf:Zct P d T=Xb) (hok:Value.okWide P w r base T v)
  (h:DataW.Trod enc P w 0 sp held T v x ps):∃ y,Zd1 P d T y∧∀ X σ k,ZR P w (KQ w) X σ k y v:=by
 obtain ⟨n,h⟩:=h
 obtain ⟨avs,h1,h2⟩:=Zjm d n T _ _ hf h
 cases d with
 | zero => simp [Zct] at hf
 | succ d =>
  have one:v.cells.toList = [v]→(∀ fs,P.underlying T≠Xa (.struct fs))→∃ y,Zd1 P (d+1) T y∧∀ X σ k,ZR P w (KQ w) X σ k y v:=by
   intro hv hns
   rw [hv] at h2
   obtain ⟨y,rfl,h3,h4⟩:=ZpM h2
   refine ⟨y,?_,fun X σ k=>(Kx h3 h4).2⟩
   unfold Zd1
   split
   ·rename_i fs hfs;exact (hns fs hfs).elim
   ·exact ⟨h3,h1⟩
  simp only [Zct] at hf
  split at hf
  ·rename_i kd hk
   obtain ⟨z,hz,_⟩:=DataW.trod_int hk h
   refine one ?_ (by rw [hk];simp)
   simp only [Value.okWide,hk,Cell.okWide] at hok
   cases v<;>simp_all [Cell.ok,Value.cells]
  ·rename_i hk
   refine one ?_ (by rw [hk];simp)
   simp only [Value.okWide,hk,Cell.okWide] at hok
   cases v<;>simp_all [Cell.ok,Value.cells]
  ·rename_i hk
   refine one ?_ (by rw [hk];simp)
   simp only [Value.okWide,hk,Cell.okWide] at hok
   cases v<;>simp_all [Cell.ok,Value.cells]
  ·rename_i e hk
   refine one ?_ (by rw [hk];simp)
   simp only [Value.okWide,hk,Cell.okWide] at hok
   cases v<;>simp_all [Cell.ok,Value.cells]
  ·rename_i fs hk
   simp only [Value.okWide,hk] at hok
   obtain ⟨cs,rfl,_,_⟩:=hok
   refine ⟨.agg avs,?_,?_⟩
   ·unfold Zd1
    simp only [hk]
    exact ⟨avs,rfl,h1⟩
   ·have:cs=cs.toList.toArray:=by simp
    intro X σ k
    show Rep w (KQ w) (.agg avs) (.agg cs)
    rw [this]
    exact .agg h2.1 h2.2.1 h2.2.2
  ·cases hf
theorem Zg9 {d:Nat} {r:Reach} {base:Nat} : ∀ (ts:List TypeId) (vs:List Value) (ds:List (DataW H)) (ps:List MemPlace),(∀ t∈ts,Zct P d t=Xb)→
  (∀ (j:Nat) (t:TypeId) (v:Value),ts[j]? = Xa t→vs[j]? = Xa v→Value.okWide P w r base t v)→DataW.TrodAll enc P w 0 sp held ts vs ds ps→
  vs.length=ts.length∧∃ xs:List AV,xs.length=ts.length∧∀ (i:Nat) (t:TypeId) (x:AV) (v:Value),ts[i]? = Xa t→xs[i]? = Xa x→vs[i]? = Xa v→Zd1 P d t x∧∀ X σ k,ZR P w (KQ w) X σ k x v
 | [], [], [], ps, _, _, _ => ⟨rfl, [], rfl, by simp⟩
 | t :: ts, v :: vs, x :: ds, ps, hf, hok, h => by
  obtain ⟨p,q,h1,h2,_⟩:=h
  obtain ⟨y,g1,g2⟩:=Zpo (hf t (by simp)) (hok 0 t v rfl rfl) h1
  obtain ⟨k1,xs,k2,k3⟩:=Zg9 ts vs ds q (fun t ht=>hf t (by simp [ht])) (fun j t' v' ht hv=>hok (j+1) t' v' (by simpa using ht) (by simpa using hv)) h2
  refine ⟨by simp [k1],y::xs,by simp [k2],fun i t' x' v' ht hx hv=>?_⟩
  cases i with
  | zero =>
   simp only [XB,Xf] at ht hx hv
   subst ht
   subst hx
   subst hv
   exact ⟨g1,g2⟩
  | succ i => exact k3 i t' x' v' (by simpa using ht) (by simpa using hx) (by simpa using hv)
 | [], _ :: _, _, _, _, _, h => h.elim
 | [], [], _ :: _, _, _, _, h => h.elim
 | _ :: _, [], _, _, _, _, h => h.elim
 | _ :: _, _ :: _, [], _, _, _, h => h.elim
theorem Zin {w':World} {sp':Nat→Bool} (hl:laidOutB P=Xb):∀ (ts:List TypeId) (vs:List Value) (ds:List (DataW H)) (ps:List MemPlace),(∀ t∈ts,t < P.types.size∧P.readableRec t=Xb)→
  DataW.TrodAll enc P w 0 (fun _=>Xb) Xb ts vs ds ps→(∀ p∈ps,w.sameAt w' p)→(∀ p∈ps,sp' p.block=Xb)→DataW.TrodAll enc P w' 0 sp' Xb ts vs ds ps
 | [], [], [], _, _, h, _, _ => h
 | t :: ts, v :: vs, x :: ds, ps, ht, h, hs, hp => by
  obtain ⟨p,q,⟨n,h1⟩,h2,rfl⟩:=h
  refine ⟨p,q,⟨n,?_⟩,Zin hl ts vs ds q (fun t' h'=>ht t' (by simp [h'])) h2 (fun z hz=>hs z (by simp [hz])) (fun z hz=>hp z (by simp [hz])),rfl⟩
  have hr:=(ht t (by simp)).2
  exact DataW.trod_stays (T:=InBook P t) (kids_book hl hr) (fun {t' e} h' hu=>book_sized hr h' hu) (fun h=>by cases h) ⟨(ht t (by simp)).1,book_self t⟩ h1 (fun z hz=>hs z (by simp [hz])) (fun z hz=>hp z (by simp [hz]))
 | [], _ :: _, _, _, _, h, _, _ => h.elim
 | [], [], _ :: _, _, _, h, _, _ => h.elim
 | _ :: _, [], _, _, _, h, _, _ => h.elim
 | _ :: _, _ :: _, [], _, _, h, _, _ => h.elim
def ZmW (P:Program) (f:FuncId) (xs:List AV) (res:AV):Prop:=
 ∀ (w:World) (cargs:List Value),cargs.length≤xs.length→(∀ (i:Nat) (σ:Nat→AV),ZR P w (KQ w) (fun _ _=>Xe) σ i (ZE xs i) (cargs.getD i undef))→
  Calls P f cargs.toArray w fun e w'=>∃ v lim' st,e = .returned v∧V5 w (KQ w) w' lim' (fun _=>False) st∧Rep w' lim' res v
theorem ZmZ {w:World} {lim:Lm} {X:Nat→Nat→Option Nat} {P:Program} {outs:List AV} {z v:Value} {n:Nat} {cargs:List Value} (hol:outs.length=n) (h:∀ i,ZR P w lim X (ZE (outs++[.val z])) i (ZE (outs++[.val z]) i) (ZbE n cargs v i)):Rep w lim (.val z) v:=by
 have h:=h n
 have h1:ZE (outs++[.val z]) n = .val z:=by
  simp only [ZE]
  rw [Xy (by omega),hol]
  simp
 have h2:ZbE n cargs v n=v:=if_pos rfl
 rw [h1,h2] at h
 exact h
theorem J1.entryS {P:Program} {f:FuncId} {xs outs:List AV} {z:Value} {p:Nat} (h:J1 P f (xs++(Xg p .dead++[.store []])) (.val z) outs) (hng:xs.countP AV.isG=0):ZmW P f xs (.val z):=by
 intro w cargs hl hrel
 refine (h.2.2 w (KQ w) (fun _ _=>Xe) cargs ?_ (fun i=>?_) (fun _ _ _ _ _ h=>by cases h) (fun _ _ _ h=>by cases h) (fun _ _ _=>rfl)).mono ?_
 ·have h1:(Xg p AV.dead).countP AV.isG=0:=List.countP_eq_zero.2 fun x hx=>by rw [(List.mem_replicate.1 hx).2];simp [AV.isG]
  have h2 : [AV.store []].countP AV.isG=1:=rfl
  rw [U2,U2,hng,h1,h2,Xu,Xu]
  simp only [List.length_replicate,List.length_singleton]
  omega
 ·rcases XE i xs.length with hi | hi
  ·have:ZE (xs++(Xg p .dead++[.store []])) i=ZE xs i:=by simp only [ZE];rw [Xx hi]
   rw [this]
   exact hrel i _
  ·have hc:ZE (xs++(Xg p .dead++[.store []])) i = .dead∨ZE (xs++(Xg p .dead++[.store []])) i = .store []:=by
    simp only [ZE]
    rw [Xy hi]
    rcases XE (i-xs.length) p with h1 | h1
    ·rw [Xx (by simpa using h1),List.getElem?_replicate,if_pos h1]
     exact .inl rfl
    ·rw [Xy (by simpa using h1)]
     cases hj:i-xs.length-(Xg p AV.dead).length with
     | zero => exact .inr rfl
     | succ j => exact .inl rfl
   rcases hc with hc | hc
   ·rw [hc]
    trivial
   ·rw [hc]
    exact ⟨fun _ _=>rfl,rfl,fun j row hr=>by simp at hr⟩
 ·rintro e w' ⟨v,lim',X',rfl,hst,hol,hr,_⟩
  exact ⟨v,lim',_,rfl,⟨hst.os,hst.tape,hst.output,hst.size,hst.frz,fun b hb _=>hst.blk b hb (by rintro ⟨_,_,h⟩;cases h),hst.ext,hst.t⟩,ZmZ hol hr⟩
theorem ZgO {fn:Func} {f:FuncId} {s:ChangeSpec} {apart fresh handsOn again:Bool} {tb:TypeId} {d:Nat} (hl:laidOutB P=Xb) (hpar:∀ t∈fn.params.toList,Zct P d t=Xb∧t < P.types.size∧P.readableRec t=Xb)
  (hres:fn.resultTypes = #[tb]) (htb:P.underlying tb=Xa .bool) (hvars:s.vars = []) (hs:∀ ds,ds.length=fn.params.size→s.fn H ds = { results:=[.lit (.bool Xb)],args:=ds })
  (hcall:∀ xs:List AV,xs.length=fn.params.toList.length→(∀ (i:Nat) (t:TypeId) (x:AV),fn.params.toList[i]? = Xa t→xs[i]? = Xa x→Zd1 P d t x)→ZmW P f xs (B Xb))
  (W:World) (base:Nat) (args:Array Value) (ds gs:List (DataW H)) (before:List MemPlace)
  (hval:∀ (j:Nat) t v,fn.params[j]? = Xa t→args[j]? = Xa v→Value.okWide P W .any base t v) (hW:DataW.Whole enc P fn.params.toList s.vars apart W args.toList ds gs before) :
  Calls P f args W fun e W'=>∃ v,e = .returned v∧s.post enc P fn apart fresh handsOn again W args v W':=by
 have hW':=hW
 obtain ⟨p,q,hA,hV,rfl,_,_⟩:=hW
 rw [hvars] at hV
 obtain ⟨rfl,rfl⟩:=ChangeShapes.trodVars_none hV
 obtain ⟨hlen,xs,hx1,hx2⟩:=Zg9 (r:=.any) (base:=base) _ _ _ _ (fun t ht=>(hpar t ht).1) (fun j t v ht hv=>hval j t v (by simpa using ht) (by simpa using hv)) hA
 have hdl:ds.length=fn.params.size:=by
  have:∀ (ts:List TypeId) (vs:List Value) (ds:List (DataW H)) (ps:List MemPlace),DataW.TrodAll enc P W 0 (fun _=>Xb) Xb ts vs ds ps→ds.length=ts.length:=by
   intro ts
   induction ts with
   | nil => intro vs ds ps h; cases vs <;> cases ds <;> simp_all [DataW.TrodAll]
   | cons t ts ih =>
    intro vs ds ps h
    cases vs with
    | nil => exact h.elim
    | cons v vs =>
     cases ds with
     | nil => exact h.elim
     | cons x ds => obtain ⟨_, _, _, h2, _⟩ := h; simp [ih _ _ _ h2]
  simpa using this _ _ _ _ hA
 have hc:=hcall xs hx1 fun i t x ht hx=>by
  obtain ⟨v,hv⟩:∃ v,args.toList[i]? = Xa v:=⟨_,Xr (by rw [hlen];exact (Xj.1 ht).1)⟩
  exact (hx2 i t x v ht hx hv).1
 have hng:xs.countP AV.isG=0:=by
  rw [List.countP_eq_zero]
  intro x hx hg
  obtain ⟨i,hi⟩:=XP.1 hx
  have hlt:=(Xj.1 hi).1
  obtain ⟨v,hv⟩:∃ v,args.toList[i]? = Xa v:=⟨_,Xr (by omega)⟩
  obtain ⟨t,ht⟩:∃ t,fn.params.toList[i]? = Xa t:=⟨_,Xr (by omega)⟩
  have hr:=(hx2 i t x v ht hi hv).2 (fun _ _=>Xe) (fun _=>.dead) 0
  have hty:=(hx2 i t x v ht hi hv).1
  cases x<;>simp [AV.isG] at hg
  ·obtain ⟨v',b,_,_,h,_⟩:=hr
   cases h
  ·unfold Zd1 at hty
   split at hty
   ·obtain ⟨cs,h,_⟩:=hty;cases h
   ·cases hty.1
 have hcalls:=hc W args.toList (by rw [hlen,hx1];exact Nat.le_refl _) (fun i σ=>by
  cases hxi:xs[i]? with
  | none =>
   have:ZE xs i = .dead:=by simp [ZE,hxi]
   rw [this]
   trivial
  | some x =>
   have hi:=(Xj.1 hxi).1
   obtain ⟨v,hv⟩:∃ v,args.toList[i]? = Xa v:=⟨_,Xr (by omega)⟩
   obtain ⟨t,ht⟩:∃ t,fn.params.toList[i]? = Xa t:=⟨_,Xr (by omega)⟩
   have h1:ZE xs i=x:=by simp [ZE,hxi]
   have h2:args.toList.getD i undef=v:=by rw [List.getD_eq_getElem?_getD,hv];rfl
   rw [h1,h2]
   exact (hx2 i t x v ht hxi hv).2 _ _ _)
 rw [Array.toArray_toList] at hcalls
 refine hcalls.mono ?_
 rintro e W' ⟨v,lim',st,rfl,hst,hrep⟩
 have hv:v = .bool Xb:=K9 hrep
 subst hv
 have hkept:∀ b,b < W.heap.size→W'.heap[b]? = W.heap[b]?:=fun b hb=>(hst.blk b hb fun h=>h).1
 have hsame:∀ z∈p++[],W.sameAt W' z:=by
  intro z hz
  have hlt:=hW'.lt z hz
  cases z with
  | cell b off =>
   show W'.cell? ⟨b,off,Xe⟩=W.cell? ⟨b,off,Xe⟩
   unfold World.cell?
   rw [hkept b hlt]
  | map b => exact hkept b hlt
 refine ⟨_,rfl,ZlT (pa:=p) hW' (fun b sp hd=>?_) (fun sp hp=>?_) (fun sp _=>?_) rfl ?_ hst.frz ?_⟩
 ·rw [hs _ (by simpa using hdl),hres]
  exact ⟨[],[],⟨1,by simp [DataW.trod,htb,Value.cells]⟩,rfl,rfl⟩
 ·rw [hs _ (by simpa using hdl),XI]
  exact Zin hl _ _ _ _ (fun t ht=>(hpar t ht).2) hA (fun z hz=>hsame z (by simpa using hz)) (fun z hz=>hp z (by simpa using hz))
 ·rw [hs _ (by simpa using hdl),hvars]
  rfl
 ·refine ⟨hst.os,hst.output,fun i hi=>?_⟩
  rw [hkept i hi]
  cases W.heap[i]? with
  | none => rfl
  | some o => cases o <;> simp
 ·exact RowKit.ok_one hres rfl (RowKit.okWide_bool_mk htb Xb)
end
open Go
def blank:Char:=Char.ofNat 32
theorem ZiA (r:List Char):wordsSigns (blank::r) = []::wordsSigns r:=by
 show wordsSigns (Char.ofNat 32::r)=_
 rw [wordsSigns]
theorem Zjr (c:Char) (r:List Char) (h:c≠blank):wordsSigns (c::r)=match wordsSigns r with | w::ws=>(c::w)::ws | []=>[[c]]:=by
 rw [wordsSigns]
 ·rfl
 ·exact h
theorem W1 (r:List Char):∀ (w:List Char),(w.all fun c=>c != blank)=Xb→wordsSigns (w++blank::r)=w::wordsSigns r
 | [], _ => ZiA r
 | c :: w, h => by
  rw [List.all_cons,Xs] at h
  rw [List.cons_append,Zjr c _ (by simpa using h.1),W1 r w h.2]
theorem ZhV {L:List Char} (h1:((L.take 7).all fun c=>c != blank)=Xb) (h2:(((L.drop 8).take 64).all fun c=>c != blank)=Xb) (h3:(((L.drop 73).take 3).all fun c=>c != blank)=Xb)
  (hL : L = L.take 7 ++ blank :: ((L.drop 8).take 64 ++ blank :: ((L.drop 73).take 3 ++ blank :: L.drop 77))) (hm : ((L.take 7 == "harness".toList || L.take 7 == "ownmain".toList) && isSumSigns ((L.drop 8).take 64)) = Xb)
  (hc : (L.drop 73).take 3 = "cut".toList) : ∃ ws, behindMainWord (wordsSigns L) = "cut".toList :: ws := by
 refine ⟨wordsSigns (L.drop 77),?_⟩
 have h:wordsSigns L=L.take 7::(L.drop 8).take 64::(L.drop 73).take 3::wordsSigns (L.drop 77):=by
  rw [hL,W1 _ _ h1,W1 _ _ h2,W1 _ _ h3,← hL]
 rw [h,behindMainWord,if_pos hm,hc]
theorem enters_of {P : Program} {ws : List (List Char)} (h : behindMainWord (wordsSigns P.initOrder.toList) = "cut".toList :: ws) (h1 : P.laysLater = Xc) (h2 : P.bearsReflect = Xc) (h3 : P.doorFits [] = Xb) : P.mayEnter = Xb := by
 unfold Program.mayEnter
 rw [h]
 have hs : stripLifts liftWords ("cut".toList :: ws) = ([], "cut".toList :: ws) := by kernel_rfl
 simp only [hs]
 simp [h1,h2,h3]
theorem lifts_of {P : Program} {ws : List (List Char)} (h : behindMainWord (wordsSigns P.initOrder.toList) = "cut".toList :: ws) : P.headLifts = [] := by
 unfold Program.headLifts
 rw [h]
 have hs : stripLifts liftWords ("cut".toList :: ws) = ([], "cut".toList :: ws) := by kernel_rfl
 simp only [hs]
 simp
theorem final_of {P : Program} {ws : List (List Char)} (h : behindMainWord (wordsSigns P.initOrder.toList) = "cut".toList :: ws) : P.liftsFinal = Xc := by
 unfold Program.liftsFinal
 rw [lifts_of h,h]
 have hs : ("cut".toList == "carried".toList) = Xc := by decide +kernel
 simp [hs]
theorem make_of {P : Program} {ws : List (List Char)} (h : behindMainWord (wordsSigns P.initOrder.toList) = "cut".toList :: ws) : P.make = Xa .cut := by
 unfold Program.make
 rw [h]
 simp
end Go.AM
namespace Go.Proofs.Ytpjnmgjphfnmmaa
open Go Go.AM
set_option maxRecDepth 100000
theorem behind : ∃ ws, behindMainWord (wordsSigns Try.prog.initOrder.toList) = "cut".toList :: ws := by
 have h:Try.prog.initOrder.toList=_:=String.toList_ofList (l:=_)
 rw [h]
 exact ZhV (by kernel_rfl) (by kernel_rfl) (by kernel_rfl) (by kernel_rfl) (by kernel_rfl) (by kernel_rfl)
theorem ZuE:Try.prog.mayEnter=Xb:=behind.elim fun _ h=>Go.AM.enters_of h (by kernel_rfl) (by kernel_rfl) (by kernel_rfl)
theorem Zvd:Try.prog.liftsFinal=Xc:=behind.elim fun _ h=>Go.AM.final_of h
theorem Zt3:Try.prog.make=Xa .cut:=behind.elim fun _ h=>Go.AM.make_of h
theorem laid:laidOutB Try.prog=Xb:=by kernel_rfl
theorem Zn4:ownKnob Try.prog.godebug=Xe:=by kernel_rfl
theorem Zh4 {d:Nat} {cs:List AV} (h:TyR Try.prog (d+1) 3 cs):∃ z,cs = [I z]:=by
 simp only [TyR,Try.underlying3] at h
 obtain ⟨z,h,_⟩:=h
 exact ⟨z,h⟩
theorem ZsR {d:Nat} {cs:List AV} (h:TyR Try.prog (d+1) 4 cs):∃ z,cs = [B z]:=by
 simp only [TyR,Try.underlying4] at h
 exact h
theorem arg_int {x:AV} (h:Zd1 Try.prog 8 3 x):∃ z,x=I z:=by
 simp only [Zd1,Try.underlying3] at h
 obtain ⟨z,hz⟩:=Zh4 h.2
 exact ⟨z,by simpa using hz⟩
theorem Zid {α β:Type} {f:α→β} {p:α→Prop} : ∀ (xs:List β),(∀ x∈xs,∃ a,x=f a∧p a)→∃ l:List α,xs=l.map f∧∀ a∈l,p a
 | [], _ => ⟨[], rfl, by simp⟩
 | x :: xs, h => by
  obtain ⟨a,h1,h2⟩:=h x (by simp)
  obtain ⟨l,h3,h4⟩:=Zid xs fun y hy=>h y (by simp [hy])
  refine ⟨a::l,by rw [h1,h3];rfl,fun b hb=>?_⟩
  rcases List.mem_cons.1 hb with rfl | hb
  ·exact h2
  ·exact h4 b hb
def ZsF:List TypeId:=[3,4,22,23,46]
theorem Zvb (t:TypeId) (h:ZsF.contains t=Xb):Zct Try.prog 8 t=Xb∧t < Try.prog.types.size∧Try.prog.readableRec t=Xb:=by
 have h2:ZsF.all (fun t=>Zct Try.prog 8 t&&decide (t < Try.prog.types.size)&&Try.prog.readableRec t)=Xb:=by kernel_rfl
 rw [XD] at h2
 have:=h2 t (by simpa using h)
 simpa [and_assoc] using this
open Go Go.AM Go.W
set_option maxRecDepth 100000
theorem Zsb:Try.prog.cellsOf 52=6:=by kernel_rfl
theorem Zt1 {d:Nat} {cs:List AV} (h:TyR Try.prog (d+1) 9 cs):∃ s,cs = [.val (.string s)]:=by
 simp only [TyR,Try.underlying9] at h
 exact h
theorem Zsn {d:Nat} {cs:List AV} (h:TyR Try.prog (d+2) 52 cs):∃ s:Zr8,cs=stepc s:=by
 rw [TyR] at h
 simp only [Try.underlying52] at h
 obtain ⟨ps,rfl,hl,hp⟩:=h
 obtain ⟨p0,p1,p2,p3,p4,p5,rfl⟩:∃ p0 p1 p2 p3 p4 p5,ps = [p0,p1,p2,p3,p4,p5]:=by
  match ps,hl with
  | [p0, p1, p2, p3, p4, p5], _ => exact ⟨p0, p1, p2, p3, p4, p5, rfl⟩
 obtain ⟨a,rfl⟩:=Zh4 (hp 0 _ _ rfl rfl)
 obtain ⟨b,rfl⟩:=Zh4 (hp 1 _ _ rfl rfl)
 obtain ⟨c,rfl⟩:=Zh4 (hp 2 _ _ rfl rfl)
 obtain ⟨e,rfl⟩:=Zh4 (hp 3 _ _ rfl rfl)
 obtain ⟨f,rfl⟩:=ZsR (hp 4 _ _ rfl rfl)
 obtain ⟨g,rfl⟩:=Zt1 (hp 5 _ _ rfl rfl)
 exact ⟨⟨a,b,c,e,f,g⟩,rfl⟩
theorem Znd {x:AV} (h:Zd1 Try.prog 8 46 x):∃ l:List Zr8,x = .slice Xc 6 (l.map stepc)∧l.length≤maxLen:=by
 simp only [Zd1,Try.underlying46] at h
 have hh:=h.2
 rw [TyR] at hh
 simp only [Try.underlying46,Zsb] at hh
 obtain ⟨xs,h1,h2,h3⟩:=hh
 obtain ⟨l,rfl,h5⟩:=Zid (f:=stepc) (p:=fun _=>True) xs fun y hy=>(Zsn (h3 y hy)).elim fun a h=>⟨a,h,trivial⟩
 exact ⟨l,by simpa using h1,by simpa using h2⟩
end Go.Proofs.Ytpjnmgjphfnmmaa
