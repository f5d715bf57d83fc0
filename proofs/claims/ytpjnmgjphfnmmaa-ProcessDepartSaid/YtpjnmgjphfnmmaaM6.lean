import Derived.Test.YtpjnmgjphfnmmaaZa
import Derived.Test.YtpjnmgjphfnmmaaFY
import Derived.Test.YtpjnmgjphfnmmaaM4
import Derived.ChangeArms
import Derived.ChangeStays
import Derived.ChangeBook
import Derived.ChangeSame
import Derived.RowKit
import Derived.ChangeOld
import GoSem.ClaimJoined
import GoSem.ClaimOpenFrom
import Derived.KernelRfl
import Derived.Test.YtpjnmgjphfnmmaaRows
import Derived.Test.YtpjnmgjphfnmmaaChecked
import Derived.JoinedOf
import Derived.JoinedAt
import Derived.RowKit3
open Option renaming some→Xa,none→Xe,bind_some→Xi,map_some→Xw
open Bool renaming true→Xb,false→Xc,and_eq_true→Xs
open Option.some renaming injEq→Xf
open List renaming replicate→Xg,mem_map→Xj,getElem?_eq_some_iff→Xk,getElem?_map→Xl,getElem?_eq_getElem→Xr,length_append→Xu,getElem?_append_left→Xx,getElem?_append_right→Xy,length_cons→Xz,getElem?_cons_zero→XB,all_eq_true→XD,mem_singleton→XF,append_nil→XK,mem_iff_getElem?→XP,flatten_cons→X4,mem_filter→Wc,sum_cons→Uc,length_eq_one_iff→Uu,countP_append→U2,length_pos_iff→Te
open Nat renaming lt_or_ge→XE,le_trans→XI
set_option linter.unusedVariables false
set_option linter.unusedSimpArgs false
set_option linter.defProp false
namespace Go.W
section
open Go Go.AM Go.Proofs.Ytpjnmgjphfnmmaa
set_option maxRecDepth 100000
variable {rows:LL} {F:Ym}
theorem ZkX (zs:List Int) (hl:zs.length≤1000) (v:Int):∀ (ks pre:List Int) (q:Nat),zs=pre++ks→ks.length < q→Zqf q (ints zs) v (pre.length:Int)=Xa (decide (v∈ks))
 | [], pre, q, hs, hq => by
  obtain ⟨q',rfl⟩:∃ q',q=q'+1:=⟨q-1,by simp at hq;omega⟩
  rw [XK] at hs
  have hlen:((ints zs).length:Int)=(zs.length:Int):=by simp
  rw [Zkh,hlen,hs,if_neg (by simp [cop])]
  simp
 | z :: ks, pre, q, hs, hq => by
  obtain ⟨q',rfl⟩:∃ q',q=q'+1:=⟨q-1,by simp at hq;omega⟩
  have hz:zs[pre.length]? = Xa z:=by rw [hs];simp
  have hi:=(Xk.1 hz).1
  have hlen:((ints zs).length:Int)=(zs.length:Int):=by simp
  have hl1:((pre++[z]).length:Int)=((pre.length+1:Nat):Int):=by simp
  rw [Zkh,hlen,if_pos (by simp [cop];omega),ZQ hz,ZaJ (by omega)]
  by_cases hv:z=v
  ·rw [if_pos (by simp [cop,hv])]
   simp [hv]
  ·have ih:=ZkX zs hl v ks (pre++[z]) q' (by rw [hs];simp) (by simp at hq;omega)
   rw [hl1] at ih
   rw [if_neg (by simp [cop,hv]),ih]
   simp [Ne.symm hv]
theorem s22 (zs:List Int) (hl:zs.length≤1000) (v:Int):g22 (ints zs) v=Xa (decide (v∈zs)):=by
 rw [Zus]
 exact ZkX zs hl v zs [] Jv rfl (by unfold Jv;omega)
theorem ZgS {core:Int} : ∀ {zs:List Int},zs.Pairwise (fun a b=>a < b)→((wo core zs).length:Int)=if core∈zs then (zs.length:Int)-1 else (zs.length:Int)
 | [], _ => rfl
 | z :: zs, h => by
  rw [List.pairwise_cons] at h
  have ih:=ZgS (core:=core) h.2
  unfold wo at ih ⊢
  by_cases hz:z=core
  ·have hn:core∉zs:=fun hh=>by have:=h.1 core hh;omega
   rw [if_neg hn] at ih
   rw [List.filter_cons_of_neg (by simp [hz]),if_pos (by simp [hz]),ih]
   simp
  ·rw [List.filter_cons_of_pos (by simp [hz])]
   by_cases hm:core∈zs
   ·rw [if_pos hm] at ih
    rw [if_pos (by simp [hm])]
    simp only [Xz]
    omega
   ·rw [if_neg hm] at ih
    rw [if_neg (by simp [hm,Ne.symm hz])]
    simp only [Xz]
    omega
structure Beh (core:Int) (e:PE) (o:Option PE):Prop where
 stay:e.p.ended=Xc→wo core e.p.cores≠[]→∃ e',o=Xa e'∧e'.p.ended=Xc
 gone:e.p.ended=Xc→wo core e.p.cores = []→∀ e',o=Xa e'→e'.p.ended=Xb∧e'.p.status = -2
 kept:∀ e',o=Xa e'→e'.p.ended=Xc→e'.p.cores=wo core e.p.cores
theorem beh {es:List PE} {last core:Int} (ho:LOk es last) {e:PE} (he:e∈es):Beh core e ((Zi (-2) (es.map (JS core)) (V4 core es)).1.find? fun a=>decide (a.p.id=e.p.id)):=by
 have hl:=VH ho core
 have hl2:=Y0 (st:=-2) (V4 core es) _ hl
 have hd:JS core e∈es.map (JS core):=Xj.2 ⟨e,he,rfl⟩
 have hfr:∀ e',(Zi (-2) (es.map (JS core)) (V4 core es)).1.find? (fun a=>decide (a.p.id=e.p.id))=Xa e'→e'∈(Zi (-2) (es.map (JS core)) (V4 core es)).1∧e'.p.id=e.p.id∧((e'.p.ended=e.p.ended∧e'.p.status=e.p.status∧e'.p.cores=wo core e.p.cores)∨(e.p.id∈V4 core es∧e.p.ended=Xc∧e'.p.ended=Xb∧e'.p.status = -2∧e'.p.cores = [])):=fun e' hf=>by
  have hm:=List.mem_of_find?_eq_some hf
  have hid:e'.p.id=e.p.id:=by have:=List.find?_some hf;simpa using this
  obtain ⟨a,ha,h1,h2⟩:=Yx (-2) (V4 core es) _ hl e' hm
  have:a=JS core e:=ZsD hl.srt ha hd (h1.trans hid)
  subst this
  exact ⟨hm,hid,h2⟩
 have hbare:∀ (hw:wo core e.p.cores = []),e.p.id∈V4 core es:=fun hw=>Xj.2 ⟨e,Wc.2 ⟨he,decide_eq_true hw⟩,rfl⟩
 have hnb:∀ (hw:wo core e.p.cores≠[]),e.p.id∉V4 core es:=fun hw hh=>by
  obtain ⟨a,ha,hid⟩:=Xj.1 hh
  rw [Wc] at ha
  have:a=e:=ZsD ho.srt ha.1 he hid
  subst this
  exact hw (by simpa using ha.2)
 refine ⟨fun hen hw=>?_,fun hen hw e' hf=>?_,fun e' hf hen'=>?_⟩
 ·obtain ⟨e',he',hid⟩:=Zb7 (-2) (V4 core es) _ hl (JS core e) hd hen (hnb hw)
  have hf:=Jm hl2.srt he'
  have hid':e'.p.id=e.p.id:=hid
  rw [hid'] at hf
  refine ⟨e',hf,?_⟩
  rcases (hfr e' hf).2.2 with ⟨h1,_⟩ | ⟨h1,_⟩
  ·rw [h1];exact hen
  ·exact absurd h1 (hnb hw)
 ·rcases (hfr e' hf).2.2 with ⟨h1,_⟩ | ⟨_,_,h1,h2,_⟩
  ·have hr:=W9 (-2) (V4 core es) _ hl _ (hbare hw)
   unfold J6 at hr
   rw [hf] at hr
   dsimp only at hr
   rw [h1,hen] at hr
   simp at hr
  ·exact ⟨h1,h2⟩
 ·rcases (hfr e' hf).2.2 with ⟨_,_,h1⟩ | ⟨_,_,h1,_⟩
  ·exact h1
  ·rw [h1] at hen';cases hen'
theorem n6 {k:Nat} {core:Int} {x1 x2:LL} {x3:Int} {e:PE} {o:Option PE} (b:Beh core e o) (hco:e.p.cores.Pairwise fun a b=>a < b) (hl:e.p.cores.length≤100) :
  N6 k core x1 x2 x3 rows (v7 e.p) (at8 (o.map PE.p))=Zlf k core x1 x2 (iop .add .i64 x3 1) rows:=by
 unfold N6
 have hv:(v7 e.p).2.2.2.1=ints e.p.cores:=rfl
 have hlen:((ints e.p.cores).length:Int)=(e.p.cores.length:Int):=by simp
 rw [hv,s22 _ (by omega),Xi]
 have hwc:=ZgS (core:=core) hco
 have key:∀ L:Int,((wo core e.p.cores).length:Int)=L→(if (at8 (o.map PE.p)).2.2.2.2.2.2.2=Xb then if (!(at8 (o.map PE.p)).2.2.2.2.1)=Xb then if (cop .neq (List.length (at8 (o.map PE.p)).2.2.2.1:Int) L)=Xb then Xa (Xc,rows) else Zlf k core x1 x2 (iop .add .i64 x3 1) rows else Zlf k core x1 x2 (iop .add .i64 x3 1) rows else Zlf k core x1 x2 (iop .add .i64 x3 1) rows)=Zlf k core x1 x2 (iop .add .i64 x3 1) rows:=fun L hL=>by
  cases o with
  | none => exact if_neg (show ¬ ((Xc : Bool) = Xb) by decide)
  | some e' =>
   refine (if_pos (show (Xb:Bool)=Xb from rfl)).trans ?_
   by_cases hen:e'.p.ended=Xb
   ·exact if_neg (show ¬ ((!e'.p.ended)=Xb) by rw [hen];decide)
   ·have hen':e'.p.ended=Xc:=by simpa using hen
    refine (if_pos (show (!e'.p.ended)=Xb by rw [hen'];rfl)).trans ?_
    have hk:=b.kept e' rfl hen'
    exact if_neg (show ¬ (cop .neq ((ints e'.p.cores).length:Int) L=Xb) by rw [hk,← hL];simp [cop])
 by_cases hm:core∈e.p.cores
 ·have hpos:0 < e.p.cores.length:=List.length_pos_of_mem hm
  rw [if_pos hm] at hwc
  rw [decide_eq_true hm,if_pos rfl,hlen,ZuT (by omega) (by omega)]
  exact key _ hwc
 ·rw [if_neg hm] at hwc
  rw [decide_eq_false hm,if_neg (by decide),hlen]
  exact key _ hwc
theorem Ztr {core:Int} {zs:List Int} (hco:zs.Pairwise fun a b=>a < b) (h0:zs≠[]):wo core zs = []↔zs = [core]:=by
 have hwc:=ZgS (core:=core) hco
 constructor
 ·intro h
  rw [h] at hwc
  have hpos:0 < zs.length:=Te.2 h0
  by_cases hm:core∈zs
  ·rw [if_pos hm] at hwc
   simp at hwc
   have h1:zs.length=1:=by omega
   obtain ⟨z,rfl⟩:=Uu.1 h1
   rw [XF] at hm
   rw [hm]
  ·rw [if_neg hm] at hwc
   simp at hwc
   omega
 ·rintro rfl
  simp [wo]
theorem ZmN {es es2:List PE} {core last:Int} (ho:LOk es last) (hco:CO es) (hrc:RC es) (h2:es2=(Zi (-2) (es.map (JS core)) (V4 core es)).1) (h2l:es2.length≤64) (h:ZD rows F):∀ (ks pre:List PE) (q:Nat),es=pre++ks→ks.length < q→
  ∃ rows',Zlf q core ((es.map PE.p).map Zaj) ((es2.map PE.p).map Zaj) (pre.length:Int) rows=Xa (Xb,rows')
 | [], pre, q, hs, hq => by
  obtain ⟨q',rfl⟩:∃ q',q=q'+1:=⟨q-1,by simp at hq;omega⟩
  rw [XK] at hs
  have hlen:(((es.map PE.p).map Zaj).length:Int)=(es.length:Int):=by simp
  obtain ⟨rows',hr⟩:=s15 h
  rw [ZnG,hlen,hs,if_neg (by simp [cop]),hr]
  exact ⟨rows',rfl⟩
 | e :: ks, pre, q, hs, hq => by
  obtain ⟨q',rfl⟩:∃ q',q=q'+1:=⟨q-1,by simp at hq;omega⟩
  obtain ⟨rows',ih⟩:=ZmN ho hco hrc h2 h2l h ks (pre++[e]) q' (by rw [hs];simp) (by simp at hq;omega)
  have hol:=ho.len
  have he:e∈es:=by rw [hs];simp
  have hz:(es.map PE.p)[pre.length]? = Xa e.p:=by rw [hs];simp
  have hi:pre.length < es.length:=by rw [hs];simp
  have hlen:(((es.map PE.p).map Zaj).length:Int)=(es.length:Int):=by simp
  have hl1:((pre++[e]).length:Int)=((pre.length+1:Nat):Int):=by simp
  rw [hl1] at ih
  have b:=beh (core:=core) ho he
  rw [← h2] at b
  obtain ⟨hc1,hc2⟩:=hco e he
  have hcl:=Zkq hco e he
  have hnx:iop .add .i64 (pre.length:Int) 1=((pre.length+1:Nat):Int):=ZaJ (by omega)
  have hid:(v7 e.p).1=e.p.id:=rfl
  have hcs:(v7 e.p).2.2.2.1=ints e.p.cores:=rfl
  have hend:(v7 e.p).2.2.2.2.1=e.p.ended:=rfl
  have hcll:((ints e.p.cores).length:Int)=(e.p.cores.length:Int):=by simp
  rw [ZnG,hlen,if_pos (by simp [cop];omega),ZcX hz,hid,s20 _ (by simp;omega),Xi,Zt5,hcs,hend,hcll]
  generalize hfo:es2.find? (fun a=>decide (a.p.id=e.p.id))=o at b ⊢
  have hN:N6 q' core ((es.map PE.p).map Zaj) ((es2.map PE.p).map Zaj) (pre.length:Int) rows (v7 e.p) (at8 (o.map PE.p))=Xa (Xb,rows'):=by
   rw [n6 b hc1 (by omega),hnx]
   exact ih
  refine ⟨rows',?_⟩
  cases hen:e.p.ended with
  | true =>
   by_cases h1:e.p.cores.length=1
   ·obtain ⟨z,hz1⟩:=Uu.1 h1
    rw [if_pos (by simp [cop,h1]),hz1,show ((0:Int))=((0:Nat):Int) from rfl,ZQ (zs:=[z]) (i:=0) rfl,if_neg (by decide)]
    unfold S6
    rw [hend,hen,if_neg (by decide)]
    exact hN
   ·rw [if_neg (by simp [cop];omega),if_neg (by decide),if_neg (by decide)]
    exact hN
  | false =>
   have hne:=hrc e he hen
   have hwn:=Ztr (core:=core) hc1 hne
   by_cases hw:wo core e.p.cores = []
   ·have hz1:=hwn.1 hw
    rw [if_pos (by rw [hz1];rfl),hz1,show ((0:Int))=((0:Nat):Int) from rfl,ZQ (zs:=[core]) (i:=0) rfl,if_pos (by decide),if_neg (by simp [cop])]
    unfold S6
    rw [hend,hen,if_pos (by decide),if_pos (by simp [cop])]
    cases o with
    | none => exact (if_neg (show ¬ ((Xc : Bool) = Xb) by decide)).trans hN
    | some e' =>
     obtain ⟨g1,g2⟩:=b.gone hen hw e' rfl
     refine (if_pos (show (Xb:Bool)=Xb from rfl)).trans ?_
     refine (if_neg (show ¬ ((!e'.p.ended)=Xb) by rw [g1];decide)).trans ?_
     exact (if_neg (show ¬ (cop .neq e'.p.status (-2)=Xb) by rw [g2];decide)).trans hN
   ·obtain ⟨e',rfl,g1⟩:=b.stay hen hw
    have g2:=b.kept e' rfl g1
    have hnc:core∉e'.p.cores:=by
     rw [g2]
     intro hh
     have:=(Wc.1 hh).2
     simp at this
    have hel:e'.p.cores.length≤1000:=by
     rw [g2]
     exact XI (ZoN _ _) (by omega)
    have h22:g22 (ints e'.p.cores) core=Xa Xc:=by rw [s22 _ hel,decide_eq_false hnc]
    by_cases h1:e.p.cores.length=1
    ·obtain ⟨z,hz1⟩:=Uu.1 h1
     have hzc:z≠core:=fun hh=>hw (hwn.2 (by rw [hz1,hh]))
     rw [if_pos (by simp [cop,h1]),hz1,show ((0:Int))=((0:Nat):Int) from rfl,ZQ (zs:=[z]) (i:=0) rfl,if_pos (by decide),if_pos (by simp [cop,hzc])]
     refine (if_neg (show ¬ ((!true)=Xb) by decide)).trans ?_
     refine (if_neg (show ¬ (e'.p.ended=Xb) by rw [g1];decide)).trans ?_
     refine Eq.trans (b:=(g22 (ints e'.p.cores) core).bind _) rfl ?_
     rw [h22,Xi,if_neg (by decide)]
     unfold S6
     rw [hend,hen,if_pos (by decide),if_neg (by simp [cop,hzc])]
     exact hN
    ·rw [if_neg (by simp [cop];omega),if_pos (by decide)]
     refine (if_neg (show ¬ ((!true)=Xb) by decide)).trans ?_
     refine (if_neg (show ¬ (e'.p.ended=Xb) by rw [g1];decide)).trans ?_
     refine Eq.trans (b:=(g22 (ints e'.p.cores) core).bind _) rfl ?_
     rw [h22,Xi,if_neg (by decide),if_pos (by decide)]
     exact hN
theorem z6 {m:MS} {r:RS} (b:Bo rows m r F) {x:LL} (hx:Ze x = .oref (m.jm+1) 0) (hrc:RC m.es) (gone:Int):∃ rows',Z6 gone x Xb rows=Xa (Xb,rows'):=by
 obtain ⟨c,hc,hc0,hc1⟩:=ZdV gone (n:=3) (by decide) (by decide)
 have hcl:∀ e∈m.es,e.p.cores.length≤100:=fun e he=>XI (Zkq b.co e he) (by decide)
 have hcl':∀ e∈m.es,e.p.cores.length≤100000:=fun e he=>XI (hcl e he) (by decide)
 obtain ⟨r1,F1,q1,q2⟩:=s14 b.h b.ok hx hcl'
 obtain ⟨r2,F2,t1,t2,t3⟩:=s23 q2 b.ok hx (core:=c) hcl
 have hd:Yk m.es c=(Zi (-2) (m.es.map (JS c)) (V4 c m.es),0):=by
  unfold Yk
  rw [if_pos (by omega)]
 rw [hd] at t1 t2 t3
 have hco2:CO (Zi (-2) (m.es.map (JS c)) (V4 c m.es)).1:=Zh2 (Zrq b.co c) (Yx (-2) _ _ (VH b.lok c))
 obtain ⟨r3,F3,u1,u2⟩:=s14 t2 t3 hx (fun e he=>XI (Zkq hco2 e he) (by decide))
 obtain ⟨r4,w⟩:=ZmN (core:=c) b.lok b.co hrc rfl (Y0 (V4 c m.es) _ (VH b.lok c) (st:=-2)).len u2 m.es [] Jv rfl (by have:=b.lok.len;unfold Jv;omega)
 unfold Z6
 rw [if_neg (by decide),hc,Xi,q1,Xi,t1,Xi]
 dsimp only
 rw [if_neg (by decide),u1,Xi]
 exact ⟨r4,w⟩
theorem Zhy (ss:List ZsT) (gone:Int) {x y:LL} : ∀ (d i:Nat) (m:MS) (r:RS) (rows:LL) (F:Ym) (q:Nat),i+d=80→Bo rows m r F→RC m.es→Ze x = .oref (m.jm+1) 0→Ze y = .oref (r.jr+1) 0→m.last≤(i:Int)+1→d < q→
  ∃ rows',Zva q (ss.map stepc) gone x y Xb (i:Int) rows=Xa (Xb,rows')
 | 0, i, m, r, rows, F, q, hd, b, hrc, hx, hy, hl, hq => by
  obtain ⟨q',rfl⟩:∃ q',q=q'+1:=⟨q-1,by omega⟩
  obtain ⟨r',hr⟩:=z6 b hx hrc gone
  refine ⟨r',?_⟩
  rw [Zit,if_pos rfl,hr]
  split
  ·rw [if_neg (by simp [cop];omega)]
  ·rfl
 | d + 1, i, m, r, rows, F, q, hd, b, hrc, hx, hy, hl, hq => by
  obtain ⟨q',rfl⟩:∃ q',q=q'+1:=⟨q-1,by omega⟩
  have hlen:((ss.map stepc).length:Int)=(ss.length:Int):=by simp
  by_cases hi:i < ss.length
  ·have hz:=Xr hi
   obtain ⟨rows2,m',r',F',q1,q2,q3,q4,q5,q6⟩:=s17 b hx hy (by omega) ss[i].k ss[i].a ss[i].b ss[i].c ss[i].raw ss[i].nm
   rw [Zit,if_pos rfl,hlen,if_pos (by simp [cop];omega),if_pos (by simp [cop];omega),Zn1 hz,q1,Xi,ZaJ (by omega)]
   exact Zhy ss gone d (i+1) m' r' rows2 F' q' (by omega) q2 (Ztf b.lok hrc q6) (by rw [q3];exact hx) (by rw [q4];exact hy) (by omega) (by omega)
  ·obtain ⟨r',hr⟩:=z6 b hx hrc gone
   refine ⟨r',?_⟩
   rw [Zit,if_pos rfl,hlen,if_neg (by simp [cop];omega),hr]
theorem s6 (core:Int) (ss:List ZsT) (gone:Int):∃ rows',g6 core (ss.map stepc) gone E0=Xa (Xb,rows'):=by
 have h:ZD E0 []:=⟨List.nodup_nil,fun p hp=>by cases hp⟩
 obtain ⟨r1,m,r,F',j,c,z,q1,q2,q3,q4,q5⟩:=s16 h core
 rw [ZvA,q1,Xi]
 exact Zhy ss gone 80 0 m r r1 F' Jv rfl q2 (by
  intro e he _
  rw [q3,XF] at he
  rw [he]
  simp [WH]) rfl rfl (by rw [q4];decide) (by unfold Jv;omega)
end
end Go.W
namespace Go.AM
def TyR (P:Program):Nat→TypeId→List AV→Prop
 | 0, _, _ => False
 | d + 1, T, cs =>
  match P.underlying T with
  | some (.int k) => ∃ z, cs = [.val (.int k z)] ∧ (Lit.int k z).wf = Xb
  | some .bool => ∃ b, cs = [.val (.bool b)]
  | some .string => ∃ s, cs = [.val (.string s)]
  | some (.slice e) => ∃ xs : List (List AV), cs = [.slice Xc (P.cellsOf e) xs] ∧ xs.length ≤ maxLen ∧ ∀ x ∈ xs, TyR P d e x
  | some (.struct fs) => ∃ parts : List (List AV), cs = parts.flatten ∧ parts.length = fs.size ∧ ∀ (i : Nat) (f : Field) (p : List AV), fs[i]? = Xa f → parts[i]? = Xa p → TyR P d f.type p
  | _ => False
def Zcv (P:Program):Nat→TypeId→Bool
 | 0, _ => Xc
 | d + 1, T =>
  match P.underlying T with
  | some (.int _) => Xb
  | some .bool => Xb
  | some .string => Xb
  | some (.slice e) => Zcv P d e && decide (0 < P.cellsOf e)
  | some (.struct fs) => (fs.toList.all fun f => Zcv P d f.type) && decide (P.cellsOf T = (fs.toList.map fun f => P.cellsOf f.type).sum) &&
    (fs.toList.zipIdx.all fun p=>decide (p.1.offset=((fs.toList.take p.2).map fun f=>P.cellsOf f.type).sum))
  | _ => Xc
def KW (w:World):Lm:=⟨fun b=>match w.heap[b]? with | some (.cells c _ _)=>c.size | _=>0,fun _=>Xe⟩
theorem Zmx {w:World} {b o:Nat} {u:Value} (h:w.cell? ⟨b,o,Xe⟩=Xa u):o < KW w b:=by
 unfold World.cell? at h
 unfold KW
 dsimp only
 split at h
 ·rename_i c t fr hc
  have h':c[o]? = Xa u:=by simpa using h
  have hc':w.heap[b]? = Xa (.cells c t fr):=hc
  rw [hc']
  exact (Array.getElem?_eq_some_iff.1 h').1
 ·cases h
theorem JI.flat {w:World} {lim:Lm} : ∀ (aZ:List (List AV)) (us:List (List Value)),aZ.length=us.length→(∀ (i:Nat) (a:List AV) (u:List Value),aZ[i]? = Xa a→us[i]? = Xa u→JI w lim a u)→JI w lim aZ.flatten us.flatten
 | [], [], _, _ => JI.nil w lim
 | [], _ :: _, h, _ => by simp at h
 | _ :: _, [], h, _ => by simp at h
 | a :: aZ, u :: us, h, hr => by
  have h1:=hr 0 a u rfl rfl
  have h2:=JI.flat aZ us (by simpa using h) fun i a' u' ha hu=>hr (i+1) a' u' (by simpa using ha) (by simpa using hu)
  refine ⟨by simp [h1.1,h2.1],fun c hc=>?_,fun i c v hc hv=>?_⟩
  ·rw [X4,List.mem_append] at hc
   rcases hc with hc | hc
   ·exact h1.2.1 c hc
   ·exact h2.2.1 c hc
  ·rw [X4] at hc hv
   by_cases hi:i < a.length
   ·rw [Xx hi] at hc
    rw [Xx (by rw [← h1.1];exact hi)] at hv
    exact h1.2.2 i c v hc hv
   ·rw [Xy (by omega)] at hc
    rw [Xy (by rw [← h1.1];omega),← h1.1] at hv
    exact h2.2.2 _ c v hc hv
theorem Zq3 {α:Type} : ∀ (ns:List Nat) (cs:List α),cs.length=ns.sum→∃ ps:List (List α),ps.length=ns.length∧ps.flatten=cs∧∀ (i:Nat) (n:Nat),ns[i]? = Xa n→ps[i]? = Xa ((cs.drop (ns.take i).sum).take n)
 | [], cs, h => ⟨[], rfl, by simp at h; simp [h], by simp⟩
 | n :: ns, cs, h => by
  obtain ⟨ps,h1,h2,h3⟩:=Zq3 ns (cs.drop n) (by simp only [Uc] at h;simp;omega)
  refine ⟨cs.take n::ps,by simp [h1],by rw [X4,h2,List.take_append_drop],fun i m hi=>?_⟩
  cases i with
  | zero => simp at hi; subst hi; simp
  | succ i =>
   have:=h3 i m (by simpa using hi)
   simp only [List.getElem?_cons_succ,this,List.take_succ_cons,Uc,List.drop_drop]
theorem Zaw {β:Type} {Q:Nat→β→Prop} : ∀ (n:Nat),(∀ i,i < n→∃ b,Q i b)→∃ l:List β,l.length=n∧∀ (i:Nat) (b:β),l[i]? = Xa b→Q i b
 | 0, _ => ⟨[], rfl, by simp⟩
 | n + 1, h => by
  obtain ⟨l,h1,h2⟩:=Zaw n fun i hi=>h i (by omega)
  obtain ⟨b,hb⟩:=h n (by omega)
  refine ⟨l++[b],by simp [h1],fun i c hc=>?_⟩
  by_cases hi:i < l.length
  ·rw [Xx hi] at hc
   exact h2 i c hc
  ·rw [Xy (by omega)] at hc
   have h0:i-l.length=0:=by
    have:=(Xk.1 hc).1
    simp at this
    omega
   rw [h0] at hc
   simp only [XB,Xf] at hc
   subst hc
   have:i=n:=by omega
   rw [this]
   exact hb
theorem Ze6 {s:Nat} {cell:Nat→Option Value} : ∀ (l:List (List Value)) (o:Nat),(∀ (i:Nat) (us:List Value),l[i]? = Xa us→us.length=s∧∀ (k:Nat) (u:Value),us[k]? = Xa u→cell (o+i*s+k)=Xa u)→
  ∀ (j:Nat) (u:Value),l.flatten[j]? = Xa u→cell (o+j)=Xa u
 | [], o, _, j, u, h => by simp at h
 | us :: l, o, h, j, u, hj => by
  obtain ⟨h1,h2⟩:=h 0 us rfl
  rw [X4] at hj
  by_cases hlt:j < us.length
  ·rw [Xx hlt] at hj
   have:=h2 j u hj
   simpa using this
  ·rw [Xy (by omega)] at hj
   have:=Ze6 l (o+s) (fun i us' hi=>by
    obtain ⟨g1,g2⟩:=h (i+1) us' (by simpa using hi)
    refine ⟨g1,fun k u' hk=>?_⟩
    have:=g2 k u' hk
    rw [Nat.add_mul,Nat.one_mul] at this
    rw [show o+s+i*s+k=o+(i*s+s)+k by omega]
    exact this) (j-us.length) u hj
   rw [show o+s+(j-us.length)=o+j by omega] at this
   exact this
theorem ZlT {H:Type} {f:Func} {s:ChangeSpec} {apart fresh handsOn again:Bool} {W W':World} {args:Array Value} {v:Value} {ds gs:List (DataW H)} {before pa:List MemPlace} {P:Program} {enc:TypeId×Value→H}
  (hW:DataW.Whole enc P f.params.toList s.vars apart W args.toList ds gs before)
  (hres:∀ (b:Nat) (sp:Nat→Bool) (hd:Bool),DataW.TrodAll enc P W' b sp hd f.resultTypes.toList (v.resultList f.resultTypes.size) (s.fn H (ds++gs)).results [])
  (hargs:∀ sp:Nat→Bool,(∀ p∈before,sp p.block=Xb)→DataW.TrodAll enc P W' 0 sp Xb f.params.toList args.toList (s.fn H (ds++gs)).args pa)
  (hvars:∀ sp:Nat→Bool,(∀ p∈before,sp p.block=Xb)→DataW.TrodVars enc P W' sp s.vars (s.fn H (ds++gs)).vars [])
  (hps:before=pa++[]) (hk:W.keptBut W' (·∈before)) (hfz:∀ a:Addr,a.block < W.heap.size→W'.frozen? a=W.frozen? a)
  (hok:∀ (j:Nat) (t:TypeId) (r:Value),f.resultTypes[j]? = Xa t→(v.resultList f.resultTypes.size)[j]? = Xa r→Value.okWide P W' .any 0 t r) :
  s.post enc P f apart fresh handsOn again W args v W':=by
 have hin:∀ p∈before,p.block < W.heap.size:=fun p hp=>hW.lt p hp
 have hdec:∀ p∈before,(fun b=>decide (b < W.heap.size)) p.block=Xb:=fun p hp=>decide_eq_true (hin p hp)
 refine ⟨ds,gs,before,[],pa,[],hW,hres _ _ _,hargs _ hdec,hvars _ hdec,World.keptBut_mono (fun p hp=>⟨hp,?_⟩) hk,fun _=>?_⟩
 ·refine Or.inr (Or.inl ?_)
  rwa [hps,XK] at hp
 ·have hWp:=hW
  obtain ⟨_,_,_,_,_,hz,hn⟩:=hWp
  refine ⟨hok,_,_,([]++pa)++[],⟨[]++pa,[],ChangeShapes.trodAll_append (hargs _ fun _ _=>rfl) (hres _ _ _),hvars _ fun _ _=>rfl,rfl,?_,?_⟩,?_⟩
  ·intro b off hp
   have hmem:MemPlace.cell b off∈before:=by rw [hps];simpa using hp
   rw [hfz _ (hin _ hmem)]
   exact hz b off hmem
  ·intro ha
   have h1:=hn ha
   rw [hps] at h1
   simpa using h1
  ·intro p hp _
   rw [hps]
   simpa using hp
section
variable {P:Program} {H:Type} {enc:TypeId×Value→H} {w:World} {sp:Nat→Bool} {held:Bool}
theorem Zjl:∀ (d n:Nat) (T:TypeId) (cs:List Value) (x:DataW H×List MemPlace),Zcv P d T=Xb→DataW.trod enc P w 0 sp held n T cs=Xa x→∃ avs,TyR P d T avs∧JI w (KW w) avs cs
 | 0, n, T, cs, x, hf, _ => by simp [Zcv] at hf
 | d + 1, n, T, cs, x, hf, h => by
  simp only [Zcv] at hf
  split at hf
  ·rename_i k hk
   obtain ⟨z,rfl,_,hw⟩:=DataW.trod_int hk h
   refine ⟨[.val (.int k z)],?_,rfl,by simp [AV.isCell],fun i c u hc hu=>?_⟩
   ·simp only [TyR,hk];exact ⟨z,rfl,hw⟩
   ·cases i with
    | zero => simp at hc hu; subst hc; subst hu; exact .val rfl
    | succ i => simp at hc
  ·rename_i hk
   obtain ⟨b,rfl,_⟩:=DataW.trod_bool hk h
   refine ⟨[.val (.bool b)],?_,rfl,by simp [AV.isCell],fun i c u hc hu=>?_⟩
   ·simp only [TyR,hk];exact ⟨b,rfl⟩
   ·cases i with
    | zero => simp at hc hu; subst hc; subst hu; exact .val rfl
    | succ i => simp at hc
  ·rename_i hk
   obtain ⟨s,rfl,_⟩:=DataW.trod_string hk h
   refine ⟨[.val (.string s)],?_,rfl,by simp [AV.isCell],fun i c u hc hu=>?_⟩
   ·simp only [TyR,hk];exact ⟨s,rfl⟩
   ·cases i with
    | zero => simp at hc hu; subst hc; subst hu; exact .val rfl
    | succ i => simp at hc
  ·rename_i e hk
   simp only [Xs,decide_eq_true_eq] at hf
   rcases DataW.trod_slice hk h with ⟨rfl,_⟩ | ⟨a,len,cap,YE,rest,m,_,rfl,_,_,hlc,hcm,hel,hcells,_,_⟩
   ·refine ⟨[.slice Xc (P.cellsOf e) []],?_,rfl,by simp [AV.isCell],fun i c u hc hu=>?_⟩
    ·simp only [TyR,hk];exact ⟨[],rfl,by simp,by simp⟩
    ·cases i with
     | zero => simp at hc hu; subst hc; subst hu; exact .sliceN
     | succ i => simp at hc
   ·obtain ⟨l,hl1,hl2⟩:=Zaw (Q:=fun i (p:List Value×List AV)=>w.cells? 0 (a.add (i*P.cellsOf e)) (P.cellsOf e)=Xa p.1∧TyR P d e p.2∧JI w (KW w) p.2 p.1) len fun i hi=>by
     have h1:=hcells i hi
     obtain ⟨y,hy⟩:∃ y,YE[i]? = Xa y:=⟨_,Xr (by omega)⟩
     rw [hy,Option.bind_eq_some_iff] at h1
     obtain ⟨us,h2,h3⟩:=h1
     obtain ⟨avs,h4,h5⟩:=Zjl d m e us y hf.1 h3
     exact ⟨(us,avs),h2,h4,h5⟩
    have hall:∀ p∈l,TyR P d e p.2∧JI w (KW w) p.2 p.1∧p.1.length=P.cellsOf e:=by
     intro p hp
     obtain ⟨i,hi⟩:=XP.1 hp
     obtain ⟨g1,g2,g3⟩:=hl2 i p hi
     exact ⟨g2,g3,(World.cells?_some g1).2.1⟩
    refine ⟨[.slice Xc (P.cellsOf e) (l.map (·.2))],?_,rfl,by simp [AV.isCell],fun i c u hc hu=>?_⟩
    ·simp only [TyR,hk]
     refine ⟨_,rfl,by simp;omega,fun y hy=>?_⟩
     obtain ⟨p,hp,rfl⟩:=Xj.1 hy
     exact (hall p hp).1
    ·cases i with
     | succ i => simp at hc
     | zero =>
      simp only [XB,Xf] at hc hu
      subst hc
      subst hu
      cases l with
      | nil =>
       have:len=0:=by simpa using hl1.symm
       subst this
       exact .sliceE (fun h=>by cases h)
      | cons p l' =>
       have hcell:∀ (j:Nat) (u:Value),((p::l').map (·.1)).flatten[j]? = Xa u→w.cell? ⟨a.block,a.off+j,Xe⟩=Xa u:=by
        refine Ze6 (s:=P.cellsOf e) (cell:=fun o=>w.cell? ⟨a.block,o,Xe⟩) _ a.off fun i us hi=>?_
        rw [Xl] at hi
        cases hpi:(p::l')[i]? with
        | none => simp [hpi] at hi
        | some q =>
         simp only [hpi,Xw,Xf] at hi
         subst hi
         obtain ⟨g1,_,_⟩:=hl2 i q hpi
         obtain ⟨_,k2,k3⟩:=World.cells?_some g1
         refine ⟨k2,fun k u hu=>?_⟩
         have hk':k < P.cellsOf e:=by rw [← k2];exact (Xk.1 hu).1
         have:=k3 k hk'
         rw [hu] at this
         have hblk:((a.add (i*P.cellsOf e)).add k).block=a.block∧((a.add (i*P.cellsOf e)).add k).off=a.off+i*P.cellsOf e+k:=by
          unfold Addr.add
          split<;>split<;>simp_all
         have hspot:((a.add (i*P.cellsOf e)).add k).spot=Xe:=by
          unfold World.cell? at this
          split at this
          ·split at this
           ·cases this
           ·rename_i hs;simpa using hs
          ·cases this
         have heq:(a.add (i*P.cellsOf e)).add k=⟨a.block,a.off+i*P.cellsOf e+k,Xe⟩:=by
          rw [← hblk.1,← hblk.2,← hspot]
         rw [heq] at this
         exact this
       have hspot:a.spot=Xe:=by
        obtain ⟨g1,_,_⟩:=hl2 0 p rfl
        obtain ⟨_,k2,k3⟩:=World.cells?_some g1
        have:=k3 0 hf.2
        obtain ⟨u,hu⟩:∃ u,p.1[0]? = Xa u:=⟨_,Xr (by rw [k2];exact hf.2)⟩
        rw [hu] at this
        have ha:(a.add (0*P.cellsOf e)).add 0=a:=by simp [Addr.add]
        rw [ha] at this
        unfold World.cell? at this
        split at this
        ·split at this
         ·cases this
         ·rename_i hs;simpa using hs
        ·cases this
       have ha:a=⟨a.block,a.off,Xe⟩:=by rw [← hspot]
       have hlen:((p::l').map (·.2)).length=len:=by rw [List.length_map];exact hl1
       rw [ha,← hlen]
       have hrel:JI w (KW w) ((p::l').map (·.2)).flatten ((p::l').map (·.1)).flatten:=by
        refine JI.flat _ _ (by simp) fun i x us hx hus=>?_
        rw [Xl] at hx hus
        cases hpi:(p::l')[i]? with
        | none => simp [hpi] at hx
        | some q =>
         simp only [hpi,Xw,Xf] at hx hus
         subst hx
         subst hus
         exact (hl2 i q hpi).2.2
       have hsz:∀ x∈(p::l').map (·.2),x.length=P.cellsOf e:=by
        intro x hx
        obtain ⟨q,hq,rfl⟩:=Xj.1 hx
        obtain ⟨_,g2,g3⟩:=hall q hq
        rw [g2.1,g3]
       refine .sliceC (us:=((p::l').map (·.1)).flatten) hsz (fun x hx=>?_) (fun h=>by cases h) (by rw [hlen];exact hlc) (fun hne=>?_) ?_ hcell hrel.2.2
       ·obtain ⟨q,hq,rfl⟩:=Xj.1 hx
        exact (hall q hq).2.1.2.1
       ·have hpos:0 < (((p::l').map (·.1)).flatten).length:=Te.2 hne
        have hlast:=hcell ((((p::l').map (·.1)).flatten).length-1) _ (Xr (by omega))
        have:=Zmx hlast
        omega
       ·rw [← hrel.1,ZA _ _ hsz]
  ·rename_i fs hk
   simp only [Xs,decide_eq_true_eq,XD] at hf
   obtain ⟨⟨h1,h2⟩,h3⟩:=hf
   obtain ⟨xs,m,_,_,hlen,hxl,hparts⟩:=DataW.trod_struct hk h
   obtain ⟨ps,q1,q2,q3⟩:=Zq3 (fs.toList.map fun f=>P.cellsOf f.type) cs (by rw [hlen,h2])
   have hps:ps.length=fs.size:=by rw [q1];simp
   obtain ⟨l,hl1,hl2⟩:=Zaw (Q:=fun i (avs:List AV)=>∃ (f:Field) (us:List Value),fs[i]? = Xa f∧ps[i]? = Xa us∧TyR P d f.type avs∧JI w (KW w) avs us) fs.size fun i hi=>by
    have hfi:fs[i]? = Xa fs[i]:=Array.getElem?_eq_getElem hi
    have hn:(fs.toList.map fun f=>P.cellsOf f.type)[i]? = Xa (P.cellsOf fs[i].type):=by simp [hi]
    have h4:=q3 i _ hn
    have h5:=hparts i _ hfi
    have hoff:=h3 (fs[i],i) (by rw [List.mem_zipIdx_iff_getElem?];simp [hi])
    simp only at hoff
    rw [hoff,List.map_take] at h5
    obtain ⟨y,hy⟩:∃ y,xs[i]? = Xa y:=⟨_,Xr (by omega)⟩
    rw [hy] at h5
    obtain ⟨avs,h6,h7⟩:=Zjl d m _ _ y (h1 fs[i] (by simp)) h5
    exact ⟨avs,fs[i],_,hfi,h4,h6,h7⟩
   refine ⟨l.flatten,?_,?_⟩
   ·simp only [TyR,hk]
    refine ⟨l,rfl,hl1,fun i f p hf hp=>?_⟩
    obtain ⟨f',us,g1,g2,g3,g4⟩:=hl2 i p hp
    rw [hf] at g1
    cases g1
    exact g3
   ·rw [← q2]
    refine JI.flat _ _ (by rw [hl1,hps]) fun i avs us ha hu=>?_
    obtain ⟨f',us',g1,g2,g3,g4⟩:=hl2 i avs ha
    rw [hu] at g2
    cases g2
    exact g4
  ·cases hf
def ZdA (P:Program) (d:Nat) (T:TypeId) (x:AV):Prop:=
 match P.underlying T with
 | some (.struct _) => ∃ cs, x = .agg cs ∧ TyR P d T cs
 | _ => x.isCell = Xb ∧ TyR P d T [x]
theorem ZqE {lim:Lm} {avs:List AV} {v:Value} (h:JI w lim avs [v]):∃ x,avs = [x]∧x.isCell=Xb∧Rep w lim x v:=by
 obtain ⟨x,rfl⟩:=Uu.1 (by simpa using h.1:avs.length=1)
 exact ⟨x,rfl,h.2.1 x (by simp),h.2.2 0 x v rfl rfl⟩
theorem ZpC {d:Nat} {T:TypeId} {v:Value} {x:DataW H} {ps:List MemPlace} {r:Reach} {base:Nat} (hf:Zcv P d T=Xb) (hok:Value.okWide P w r base T v)
  (h:DataW.Trod enc P w 0 sp held T v x ps):∃ y,ZdA P d T y∧∀ X σ k,ZS P w (KW w) X σ k y v:=by
 obtain ⟨n,h⟩:=h
 obtain ⟨avs,h1,h2⟩:=Zjl d n T _ _ hf h
 cases d with
 | zero => simp [Zcv] at hf
 | succ d =>
  have one:v.cells.toList = [v]→(∀ fs,P.underlying T≠Xa (.struct fs))→∃ y,ZdA P (d+1) T y∧∀ X σ k,ZS P w (KW w) X σ k y v:=by
   intro hv hns
   rw [hv] at h2
   obtain ⟨y,rfl,h3,h4⟩:=ZqE h2
   refine ⟨y,?_,fun X σ k=>(Kw h3 h4).2⟩
   unfold ZdA
   split
   ·rename_i fs hfs;exact (hns fs hfs).elim
   ·exact ⟨h3,h1⟩
  simp only [Zcv] at hf
  split at hf
  ·rename_i kd hk
   obtain ⟨z,hz,_⟩:=DataW.trod_int hk h
   refine one ?_ (by rw [hk];simp)
   simp only [Value.okWide,hk,Cell.okWide] at hok
   cases v<;>simp_all [Cell.ok,Value.cells]
  ·rename_i hk
   refine one ?_ (by rw [hk];simp)
   simp only [Value.okWide,hk,Cell.okWide] at hok
   cases v<;>simp_all [Cell.ok,Value.cells]
  ·rename_i hk
   refine one ?_ (by rw [hk];simp)
   simp only [Value.okWide,hk,Cell.okWide] at hok
   cases v<;>simp_all [Cell.ok,Value.cells]
  ·rename_i e hk
   refine one ?_ (by rw [hk];simp)
   simp only [Value.okWide,hk,Cell.okWide] at hok
   cases v<;>simp_all [Cell.ok,Value.cells]
  ·rename_i fs hk
   simp only [Value.okWide,hk] at hok
   obtain ⟨cs,rfl,_,_⟩:=hok
   refine ⟨.agg avs,?_,?_⟩
   ·unfold ZdA
    simp only [hk]
    exact ⟨avs,rfl,h1⟩
   ·have:cs=cs.toList.toArray:=by simp
    intro X σ k
    show Rep w (KW w) (.agg avs) (.agg cs)
    rw [this]
    exact .agg h2.1 h2.2.1 h2.2.2
  ·cases hf
theorem Zg5 {d:Nat} {r:Reach} {base:Nat} : ∀ (ts:List TypeId) (vs:List Value) (ds:List (DataW H)) (ps:List MemPlace),(∀ t∈ts,Zcv P d t=Xb)→
  (∀ (j:Nat) (t:TypeId) (v:Value),ts[j]? = Xa t→vs[j]? = Xa v→Value.okWide P w r base t v)→DataW.TrodAll enc P w 0 sp held ts vs ds ps→
  vs.length=ts.length∧∃ xs:List AV,xs.length=ts.length∧∀ (i:Nat) (t:TypeId) (x:AV) (v:Value),ts[i]? = Xa t→xs[i]? = Xa x→vs[i]? = Xa v→ZdA P d t x∧∀ X σ k,ZS P w (KW w) X σ k x v
 | [], [], [], ps, _, _, _ => ⟨rfl, [], rfl, by simp⟩
 | t :: ts, v :: vs, x :: ds, ps, hf, hok, h => by
  obtain ⟨p,q,h1,h2,_⟩:=h
  obtain ⟨y,g1,g2⟩:=ZpC (hf t (by simp)) (hok 0 t v rfl rfl) h1
  obtain ⟨k1,xs,k2,k3⟩:=Zg5 ts vs ds q (fun t ht=>hf t (by simp [ht])) (fun j t' v' ht hv=>hok (j+1) t' v' (by simpa using ht) (by simpa using hv)) h2
  refine ⟨by simp [k1],y::xs,by simp [k2],fun i t' x' v' ht hx hv=>?_⟩
  cases i with
  | zero =>
   simp only [XB,Xf] at ht hx hv
   subst ht
   subst hx
   subst hv
   exact ⟨g1,g2⟩
  | succ i => exact k3 i t' x' v' (by simpa using ht) (by simpa using hx) (by simpa using hv)
 | [], _ :: _, _, _, _, _, h => h.elim
 | [], [], _ :: _, _, _, _, h => h.elim
 | _ :: _, [], _, _, _, _, h => h.elim
 | _ :: _, _ :: _, [], _, _, _, h => h.elim
theorem Zhk {w':World} {sp':Nat→Bool} (hl:laidOutB P=Xb):∀ (ts:List TypeId) (vs:List Value) (ds:List (DataW H)) (ps:List MemPlace),(∀ t∈ts,t < P.types.size∧P.readableRec t=Xb)→
  DataW.TrodAll enc P w 0 (fun _=>Xb) Xb ts vs ds ps→(∀ p∈ps,w.sameAt w' p)→(∀ p∈ps,sp' p.block=Xb)→DataW.TrodAll enc P w' 0 sp' Xb ts vs ds ps
 | [], [], [], _, _, h, _, _ => h
 | t :: ts, v :: vs, x :: ds, ps, ht, h, hs, hp => by
  obtain ⟨p,q,⟨n,h1⟩,h2,rfl⟩:=h
  refine ⟨p,q,⟨n,?_⟩,Zhk hl ts vs ds q (fun t' h'=>ht t' (by simp [h'])) h2 (fun z hz=>hs z (by simp [hz])) (fun z hz=>hp z (by simp [hz])),rfl⟩
  have hr:=(ht t (by simp)).2
  exact DataW.trod_stays (T:=InBook P t) (kids_book hl hr) (fun {t' e} h' hu=>book_sized hr h' hu) (fun h=>by cases h) ⟨(ht t (by simp)).1,book_self t⟩ h1 (fun z hz=>hs z (by simp [hz])) (fun z hz=>hp z (by simp [hz]))
 | [], _ :: _, _, _, _, h, _, _ => h.elim
 | [], [], _ :: _, _, _, h, _, _ => h.elim
 | _ :: _, [], _, _, _, h, _, _ => h.elim
 | _ :: _, _ :: _, [], _, _, h, _, _ => h.elim
def ZnT (P:Program) (f:FuncId) (xs:List AV) (res:AV):Prop:=
 ∀ (w:World) (cargs:List Value),cargs.length≤xs.length→(∀ (i:Nat) (σ:Nat→AV),ZS P w (KW w) (fun _ _=>Xe) σ i (ZE xs i) (cargs.getD i undef))→
  Calls P f cargs.toArray w fun e w'=>∃ v lim' st,e = .returned v∧V3 w (KW w) w' lim' (fun _=>False) st∧Rep w' lim' res v
theorem Znf {w:World} {lim:Lm} {X:Nat→Nat→Option Nat} {P:Program} {outs:List AV} {z v:Value} {n:Nat} {cargs:List Value} (hol:outs.length=n) (h:∀ i,ZS P w lim X (ZE (outs++[.val z])) i (ZE (outs++[.val z]) i) (ZbC n cargs v i)):Rep w lim (.val z) v:=by
 have h:=h n
 have h1:ZE (outs++[.val z]) n = .val z:=by
  simp only [ZE]
  rw [Xy (by omega),hol]
  simp
 have h2:ZbC n cargs v n=v:=if_pos rfl
 rw [h1,h2] at h
 exact h
theorem J4.entryS {P:Program} {f:FuncId} {xs outs:List AV} {z:Value} {p:Nat} (h:J4 P f (xs++(Xg p .dead++[.store []])) (.val z) outs) (hng:xs.countP AV.isG=0):ZnT P f xs (.val z):=by
 intro w cargs hl hrel
 refine (h.2.2 w (KW w) (fun _ _=>Xe) cargs ?_ (fun i=>?_) (fun _ _ _ _ _ h=>by cases h) (fun _ _ _ h=>by cases h) (fun _ _ _=>rfl)).mono ?_
 ·have h1:(Xg p AV.dead).countP AV.isG=0:=List.countP_eq_zero.2 fun x hx=>by rw [(List.mem_replicate.1 hx).2];simp [AV.isG]
  have h2 : [AV.store []].countP AV.isG=1:=rfl
  rw [U2,U2,hng,h1,h2,Xu,Xu]
  simp only [List.length_replicate,List.length_singleton]
  omega
 ·rcases XE i xs.length with hi | hi
  ·have:ZE (xs++(Xg p .dead++[.store []])) i=ZE xs i:=by simp only [ZE];rw [Xx hi]
   rw [this]
   exact hrel i _
  ·have hc:ZE (xs++(Xg p .dead++[.store []])) i = .dead∨ZE (xs++(Xg p .dead++[.store []])) i = .store []:=by
    simp only [ZE]
    rw [Xy hi]
    rcases XE (i-xs.length) p with h1 | h1
    ·rw [Xx (by simpa using h1),List.getElem?_replicate,if_pos h1]
     exact .inl rfl
    ·rw [Xy (by simpa using h1)]
     cases hj:i-xs.length-(Xg p AV.dead).length with
     | zero => exact .inr rfl
     | succ j => exact .inl rfl
   rcases hc with hc | hc
   ·rw [hc]
    trivial
   ·rw [hc]
    exact ⟨fun _ _=>rfl,rfl,fun j row hr=>by simp at hr⟩
 ·rintro e w' ⟨v,lim',X',rfl,hst,hol,hr,_⟩
  exact ⟨v,lim',_,rfl,⟨hst.os,hst.tape,hst.output,hst.size,hst.frz,fun b hb _=>hst.blk b hb (by rintro ⟨_,_,h⟩;cases h),hst.ext,hst.t⟩,Znf hol hr⟩
theorem ZfT {fn:Func} {f:FuncId} {s:ChangeSpec} {apart fresh handsOn again:Bool} {tb:TypeId} {d:Nat} (hl:laidOutB P=Xb) (hpar:∀ t∈fn.params.toList,Zcv P d t=Xb∧t < P.types.size∧P.readableRec t=Xb)
  (hres:fn.resultTypes = #[tb]) (htb:P.underlying tb=Xa .bool) (hvars:s.vars = []) (hs:∀ ds,ds.length=fn.params.size→s.fn H ds = { results:=[.lit (.bool Xb)],args:=ds })
  (hcall:∀ xs:List AV,xs.length=fn.params.toList.length→(∀ (i:Nat) (t:TypeId) (x:AV),fn.params.toList[i]? = Xa t→xs[i]? = Xa x→ZdA P d t x)→ZnT P f xs (B Xb))
  (W:World) (base:Nat) (args:Array Value) (ds gs:List (DataW H)) (before:List MemPlace)
  (hval:∀ (j:Nat) t v,fn.params[j]? = Xa t→args[j]? = Xa v→Value.okWide P W .any base t v) (hW:DataW.Whole enc P fn.params.toList s.vars apart W args.toList ds gs before) :
  Calls P f args W fun e W'=>∃ v,e = .returned v∧s.post enc P fn apart fresh handsOn again W args v W':=by
 have hW':=hW
 obtain ⟨p,q,hA,hV,rfl,_,_⟩:=hW
 rw [hvars] at hV
 obtain ⟨rfl,rfl⟩:=ChangeShapes.trodVars_none hV
 obtain ⟨hlen,xs,hx1,hx2⟩:=Zg5 (r:=.any) (base:=base) _ _ _ _ (fun t ht=>(hpar t ht).1) (fun j t v ht hv=>hval j t v (by simpa using ht) (by simpa using hv)) hA
 have hdl:ds.length=fn.params.size:=by
  have:∀ (ts:List TypeId) (vs:List Value) (ds:List (DataW H)) (ps:List MemPlace),DataW.TrodAll enc P W 0 (fun _=>Xb) Xb ts vs ds ps→ds.length=ts.length:=by
   intro ts
   induction ts with
   | nil => intro vs ds ps h; cases vs <;> cases ds <;> simp_all [DataW.TrodAll]
   | cons t ts ih =>
    intro vs ds ps h
    cases vs with
    | nil => exact h.elim
    | cons v vs =>
     cases ds with
     | nil => exact h.elim
     | cons x ds => obtain ⟨_, _, _, h2, _⟩ := h; simp [ih _ _ _ h2]
  simpa using this _ _ _ _ hA
 have hc:=hcall xs hx1 fun i t x ht hx=>by
  obtain ⟨v,hv⟩:∃ v,args.toList[i]? = Xa v:=⟨_,Xr (by rw [hlen];exact (Xk.1 ht).1)⟩
  exact (hx2 i t x v ht hx hv).1
 have hng:xs.countP AV.isG=0:=by
  rw [List.countP_eq_zero]
  intro x hx hg
  obtain ⟨i,hi⟩:=XP.1 hx
  have hlt:=(Xk.1 hi).1
  obtain ⟨v,hv⟩:∃ v,args.toList[i]? = Xa v:=⟨_,Xr (by omega)⟩
  obtain ⟨t,ht⟩:∃ t,fn.params.toList[i]? = Xa t:=⟨_,Xr (by omega)⟩
  have hr:=(hx2 i t x v ht hi hv).2 (fun _ _=>Xe) (fun _=>.dead) 0
  have hty:=(hx2 i t x v ht hi hv).1
  cases x<;>simp [AV.isG] at hg
  ·obtain ⟨v',b,_,_,h,_⟩:=hr
   cases h
  ·unfold ZdA at hty
   split at hty
   ·obtain ⟨cs,h,_⟩:=hty;cases h
   ·cases hty.1
 have hcalls:=hc W args.toList (by rw [hlen,hx1];exact Nat.le_refl _) (fun i σ=>by
  cases hxi:xs[i]? with
  | none =>
   have:ZE xs i = .dead:=by simp [ZE,hxi]
   rw [this]
   trivial
  | some x =>
   have hi:=(Xk.1 hxi).1
   obtain ⟨v,hv⟩:∃ v,args.toList[i]? = Xa v:=⟨_,Xr (by omega)⟩
   obtain ⟨t,ht⟩:∃ t,fn.params.toList[i]? = Xa t:=⟨_,Xr (by omega)⟩
   have h1:ZE xs i=x:=by simp [ZE,hxi]
   have h2:args.toList.getD i undef=v:=by rw [List.getD_eq_getElem?_getD,hv];rfl
   rw [h1,h2]
   exact (hx2 i t x v ht hxi hv).2 _ _ _)
 rw [Array.toArray_toList] at hcalls
 refine hcalls.mono ?_
 rintro e W' ⟨v,lim',st,rfl,hst,hrep⟩
 have hv:v = .bool Xb:=K6 hrep
 subst hv
 have hkept:∀ b,b < W.heap.size→W'.heap[b]? = W.heap[b]?:=fun b hb=>(hst.blk b hb fun h=>h).1
 have hsame:∀ z∈p++[],W.sameAt W' z:=by
  intro z hz
  have hlt:=hW'.lt z hz
  cases z with
  | cell b off =>
   show W'.cell? ⟨b,off,Xe⟩=W.cell? ⟨b,off,Xe⟩
   unfold World.cell?
   rw [hkept b hlt]
  | map b => exact hkept b hlt
 refine ⟨_,rfl,ZlT (pa:=p) hW' (fun b sp hd=>?_) (fun sp hp=>?_) (fun sp _=>?_) rfl ?_ hst.frz ?_⟩
 ·rw [hs _ (by simpa using hdl),hres]
  exact ⟨[],[],⟨1,by simp [DataW.trod,htb,Value.cells]⟩,rfl,rfl⟩
 ·rw [hs _ (by simpa using hdl),XK]
  exact Zhk hl _ _ _ _ (fun t ht=>(hpar t ht).2) hA (fun z hz=>hsame z (by simpa using hz)) (fun z hz=>hp z (by simpa using hz))
 ·rw [hs _ (by simpa using hdl),hvars]
  rfl
 ·refine ⟨hst.os,hst.output,fun i hi=>?_⟩
  rw [hkept i hi]
  cases W.heap[i]? with
  | none => rfl
  | some o => cases o <;> simp
 ·exact RowKit.ok_one hres rfl (RowKit.okWide_bool_mk htb Xb)
end
open Go
def blank:Char:=Char.ofNat 32
theorem Zjj (r:List Char):wordsSigns (blank::r) = []::wordsSigns r:=by
 show wordsSigns (Char.ofNat 32::r)=_
 rw [wordsSigns]
theorem ZiL (c:Char) (r:List Char) (h:c≠blank):wordsSigns (c::r)=match wordsSigns r with | w::ws=>(c::w)::ws | []=>[[c]]:=by
 rw [wordsSigns]
 ·rfl
 ·exact h
theorem Zah (r:List Char):∀ (w:List Char),(w.all fun c=>c != blank)=Xb→wordsSigns (w++blank::r)=w::wordsSigns r
 | [], _ => Zjj r
 | c :: w, h => by
  rw [List.all_cons,Xs] at h
  rw [List.cons_append,ZiL c _ (by simpa using h.1),Zah r w h.2]
theorem ZhY {L:List Char} (h1:((L.take 7).all fun c=>c != blank)=Xb) (h2:(((L.drop 8).take 64).all fun c=>c != blank)=Xb) (h3:(((L.drop 73).take 3).all fun c=>c != blank)=Xb)
  (hL : L = L.take 7 ++ blank :: ((L.drop 8).take 64 ++ blank :: ((L.drop 73).take 3 ++ blank :: L.drop 77))) (hm : ((L.take 7 == "harness".toList || L.take 7 == "ownmain".toList) && isSumSigns ((L.drop 8).take 64)) = Xb)
  (hc : (L.drop 73).take 3 = "cut".toList) : ∃ ws, behindMainWord (wordsSigns L) = "cut".toList :: ws := by
 refine ⟨wordsSigns (L.drop 77),?_⟩
 have h:wordsSigns L=L.take 7::(L.drop 8).take 64::(L.drop 73).take 3::wordsSigns (L.drop 77):=by
  rw [hL,Zah _ _ h1,Zah _ _ h2,Zah _ _ h3,← hL]
 rw [h,behindMainWord,if_pos hm,hc]
theorem enters_of {P : Program} {ws : List (List Char)} (h : behindMainWord (wordsSigns P.initOrder.toList) = "cut".toList :: ws) (h1 : P.laysLater = Xc) (h2 : P.bearsReflect = Xc) (h3 : P.doorFits [] = Xb) : P.mayEnter = Xb := by
 unfold Program.mayEnter
 rw [h]
 have hs : stripLifts liftWords ("cut".toList :: ws) = ([], "cut".toList :: ws) := by kernel_rfl
 simp only [hs]
 simp [h1,h2,h3]
theorem lifts_of {P : Program} {ws : List (List Char)} (h : behindMainWord (wordsSigns P.initOrder.toList) = "cut".toList :: ws) : P.headLifts = [] := by
 unfold Program.headLifts
 rw [h]
 have hs : stripLifts liftWords ("cut".toList :: ws) = ([], "cut".toList :: ws) := by kernel_rfl
 simp only [hs]
 simp
theorem final_of {P : Program} {ws : List (List Char)} (h : behindMainWord (wordsSigns P.initOrder.toList) = "cut".toList :: ws) : P.liftsFinal = Xc := by
 unfold Program.liftsFinal
 rw [lifts_of h,h]
 have hs : ("cut".toList == "carried".toList) = Xc := by decide +kernel
 simp [hs]
theorem make_of {P : Program} {ws : List (List Char)} (h : behindMainWord (wordsSigns P.initOrder.toList) = "cut".toList :: ws) : P.make = Xa .cut := by
 unfold Program.make
 rw [h]
 simp
end Go.AM
namespace Go.Proofs.Ytpjnmgjphfnmmaa
open Go Go.AM
set_option maxRecDepth 100000
theorem behind : ∃ ws, behindMainWord (wordsSigns Try.prog.initOrder.toList) = "cut".toList :: ws := by
 have h:Try.prog.initOrder.toList=_:=String.toList_ofList (l:=_)
 rw [h]
 exact ZhY (by kernel_rfl) (by kernel_rfl) (by kernel_rfl) (by kernel_rfl) (by kernel_rfl) (by kernel_rfl)
theorem ZtL:Try.prog.mayEnter=Xb:=behind.elim fun _ h=>Go.AM.enters_of h (by kernel_rfl) (by kernel_rfl) (by kernel_rfl)
theorem Zvl:Try.prog.liftsFinal=Xc:=behind.elim fun _ h=>Go.AM.final_of h
theorem ZuO:Try.prog.make=Xa .cut:=behind.elim fun _ h=>Go.AM.make_of h
theorem laid:laidOutB Try.prog=Xb:=by kernel_rfl
theorem Zmw:ownKnob Try.prog.godebug=Xe:=by kernel_rfl
theorem Zh9 {d:Nat} {cs:List AV} (h:TyR Try.prog (d+1) 3 cs):∃ z,cs = [I z]:=by
 simp only [TyR,Try.underlying3] at h
 obtain ⟨z,h,_⟩:=h
 exact ⟨z,h⟩
theorem ZsG {d:Nat} {cs:List AV} (h:TyR Try.prog (d+1) 4 cs):∃ z,cs = [B z]:=by
 simp only [TyR,Try.underlying4] at h
 exact h
theorem arg_int {x:AV} (h:ZdA Try.prog 8 3 x):∃ z,x=I z:=by
 simp only [ZdA,Try.underlying3] at h
 obtain ⟨z,hz⟩:=Zh9 h.2
 exact ⟨z,by simpa using hz⟩
theorem ZhM {α β:Type} {f:α→β} {p:α→Prop} : ∀ (xs:List β),(∀ x∈xs,∃ a,x=f a∧p a)→∃ l:List α,xs=l.map f∧∀ a∈l,p a
 | [], _ => ⟨[], rfl, by simp⟩
 | x :: xs, h => by
  obtain ⟨a,h1,h2⟩:=h x (by simp)
  obtain ⟨l,h3,h4⟩:=ZhM xs fun y hy=>h y (by simp [hy])
  refine ⟨a::l,by rw [h1,h3];rfl,fun b hb=>?_⟩
  rcases List.mem_cons.1 hb with rfl | hb
  ·exact h2
  ·exact h4 b hb
def Zsh:List TypeId:=[3,4,22,23,46]
theorem Zvb (t:TypeId) (h:Zsh.contains t=Xb):Zcv Try.prog 8 t=Xb∧t < Try.prog.types.size∧Try.prog.readableRec t=Xb:=by
 have h2:Zsh.all (fun t=>Zcv Try.prog 8 t&&decide (t < Try.prog.types.size)&&Try.prog.readableRec t)=Xb:=by kernel_rfl
 rw [XD] at h2
 have:=h2 t (by simpa using h)
 simpa [and_assoc] using this
open Go Go.AM Go.W
set_option maxRecDepth 100000
theorem ZsC:Try.prog.cellsOf 52=6:=by kernel_rfl
theorem Zt1 {d:Nat} {cs:List AV} (h:TyR Try.prog (d+1) 9 cs):∃ s,cs = [.val (.string s)]:=by
 simp only [TyR,Try.underlying9] at h
 exact h
theorem ZsR {d:Nat} {cs:List AV} (h:TyR Try.prog (d+2) 52 cs):∃ s:ZsT,cs=stepc s:=by
 rw [TyR] at h
 simp only [Try.underlying52] at h
 obtain ⟨ps,rfl,hl,hp⟩:=h
 obtain ⟨p0,p1,p2,p3,p4,p5,rfl⟩:∃ p0 p1 p2 p3 p4 p5,ps = [p0,p1,p2,p3,p4,p5]:=by
  match ps,hl with
  | [p0, p1, p2, p3, p4, p5], _ => exact ⟨p0, p1, p2, p3, p4, p5, rfl⟩
 obtain ⟨a,rfl⟩:=Zh9 (hp 0 _ _ rfl rfl)
 obtain ⟨b,rfl⟩:=Zh9 (hp 1 _ _ rfl rfl)
 obtain ⟨c,rfl⟩:=Zh9 (hp 2 _ _ rfl rfl)
 obtain ⟨e,rfl⟩:=Zh9 (hp 3 _ _ rfl rfl)
 obtain ⟨f,rfl⟩:=ZsG (hp 4 _ _ rfl rfl)
 obtain ⟨g,rfl⟩:=Zt1 (hp 5 _ _ rfl rfl)
 exact ⟨⟨a,b,c,e,f,g⟩,rfl⟩
theorem ZnC {x:AV} (h:ZdA Try.prog 8 46 x):∃ l:List ZsT,x = .slice Xc 6 (l.map stepc)∧l.length≤maxLen:=by
 simp only [ZdA,Try.underlying46] at h
 have hh:=h.2
 rw [TyR] at hh
 simp only [Try.underlying46,ZsC] at hh
 obtain ⟨xs,h1,h2,h3⟩:=hh
 obtain ⟨l,rfl,h5⟩:=ZhM (f:=stepc) (p:=fun _=>True) xs fun y hy=>(ZsR (h3 y hy)).elim fun a h=>⟨a,h,trivial⟩
 exact ⟨l,by simpa using h1,by simpa using h2⟩
end Go.Proofs.Ytpjnmgjphfnmmaa
