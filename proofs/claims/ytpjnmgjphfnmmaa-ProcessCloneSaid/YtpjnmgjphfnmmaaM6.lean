import Derived.Test.YtpjnmgjphfnmmaaM5
import Derived.Test.YtpjnmgjphfnmmaaFT
import Derived.Test.YtpjnmgjphfnmmaaM4
import Derived.Test.YtpjnmgjphfnmmaaProg
import Derived.WalkKit
import Derived.OwnWalk
import Derived.Lib.Walk
import Derived.Lib.SliceRun
import Derived.KernelRfl
import Derived.Maps.RangeRun
import Derived.Maps.RangeWalk
import Derived.Carry
open Option renaming some→Xa,none→Xc,bind_some→Xi
open Bool renaming true→Xb,false→Xe
open List renaming map_cons→Xh,mem_map→Xj,getElem?_eq_some_iff→Xk,getElem?_map→Xl,mem_of_getElem?→Xm,length→Xn,append_assoc→Xo,getElem?_eq_getElem→Xp,mem_cons→Xq,mem_append→Xv,length_cons→XA,getElem?_cons_zero→XB,getElem?_take→XC,mem_singleton→XE,map_append→XL,getElem?_cons_succ→XQ,perm_append_comm_assoc→X4,filter_cons_of_neg→X8,nodup_cons→Wa,filter_cons_of_pos→Wd,mem_filter→We,map_map→Wf,ext_getElem?→Wo,filter_eq_self→Uu,pairwise_map→Uy,mem_map_of_mem→UQ,nodup_iff_pairwise_ne→U1,filterMap_cons_some→Th
open Nat renaming le_refl→Xy,zero_add→XH,le_trans→XI,zero_le→X5,mul_one→Wj,succ_pos→Uq,mod_two_eq_zero_or_one→Tf
open Option.some renaming inj→XT
open Array renaming getElem?_eq_getElem→XV,getElem?_toList→Wg,getElem?_eq_some_iff→Wk,mem_toList_iff→Tk
open Int renaming toNat_natCast→Wv
set_option linter.unusedVariables false
set_option linter.unusedSimpArgs false
set_option linter.defProp false
namespace Go.W
section
open Go Go.AM Go.Proofs.Ytpjnmgjphfnmmaa
set_option maxRecDepth 100000
variable {rows:LL} {F:JZ}
structure ZqF where
 k:Int
 a:Int
 b:Int
 c:Int
 raw:Bool
 nm:ByteArray
def stepc (s:ZqF):List AV:=[I s.k,I s.a,I s.b,I s.c,B s.raw,.val (.string s.nm)]
theorem Ziw {γ:Type} {l:List ZqF} {i:Nat} {s:ZqF} (h:l[i]? = Xa s) (k:Int×Int×Int×Int×Bool×ByteArray→Option γ):Zk (l.map stepc) (i:Int) [.int .i64,.int .i64,.int .i64,.int .i64,.bool,.str] k=k (s.k,s.a,s.b,s.c,s.raw,s.nm):=
 YM (l:=l.map stepc) (sh:=[.int .i64,.int .i64,.int .i64,.int .i64,.bool,.str]) (cs:=stepc s) (r:=(s.k,s.a,s.b,s.c,s.raw,s.nm)) k (by omega) (by rw [Wv,Xl,h];rfl) rfl
def v7 (p:Pr):Int×Int×ByteArray×LL×Bool×Int×Bool:=(p.id,p.parent,p.name,ints p.cores,p.ended,p.status,p.waiting)
theorem ZhT {γ:Type} {l:List Pr} {i:Nat} {p:Pr} (h:l[i]? = Xa p) (k:Int×Int×ByteArray×LL×Bool×Int×Bool→Option γ):Zk (l.map Zbb) (i:Int) [.int .i64,.int .i64,.str,.slice 1,.bool,.int .i64,.bool] k=k (v7 p):=
 YM (l:=l.map Zbb) (sh:=[.int .i64,.int .i64,.str,.slice 1,.bool,.int .i64,.bool]) (cs:=Zbb p) (r:=v7 p) k (by omega) (by rw [Wv,Xl,h];rfl) rfl
def RC (es:List PE):Prop:=∀ e∈es,e.p.ended=Xe→e.p.cores≠[]
theorem Zos {K:List Int} {st:Int} {es es':List PE} (h:RC es) (hf:Fra K st es es'):RC es':=fun e he hen=>by
 obtain ⟨a,ha,_,h1⟩:=hf e he;rcases h1 with ⟨h2,_,h3⟩ | ⟨_,_,h2,_⟩
 ·rw [h3];exact h a ha (by rw [← h2];exact hen)
 ·rw [h2] at hen;cases hen
theorem Zpi {es:List PE} {last core:Int} (ho:LOk es last):RC (Zi (-2) (es.map (Yj core)) (Zez core es)).1:=fun e he hen=>by
 have hl:=Zb8 ho core;obtain ⟨a,ha,hid,h1⟩:=KB (-2) (Zez core es) _ hl e he;rcases h1 with ⟨h2,_,h3⟩ | ⟨_,_,h2,_⟩
 ·intro hh;obtain ⟨d,hd,rfl⟩:=Xj.1 ha;have hb:d.p.id∈Zez core es:=Xj.2 ⟨d,We.2 ⟨hd,by rw [h3] at hh;exact decide_eq_true hh⟩,rfl⟩;have hr:=Zci (-2) (Zez core es) _ hl _ hb;have hf:=Ju (VB (Zez core es) _ hl (st:=-2)).srt he;have hde:e.p.id=d.p.id:=hid.symm;unfold Yn at hr;rw [← hde,hf] at hr;dsimp only at hr;rw [hen] at hr;simp at hr
 ·rw [h2] at hen;cases hen
theorem Zu2 {es es':List PE} {last last':Int} (h:LOk es last) (hc:RC es) (s:Stp es last es' last'):RC es':=by
 cases s with
 | same => exact hc
 | spawn e' p parent core nm _ h1 h2 =>
  intro e he hen;rcases Xv.1 he with he | he
  ·exact hc e he hen
  ·rw [XE] at he;rw [he,h2];simp
 | span k core L e h1 h2 h3 =>
  intro a ha hen;obtain ⟨b,hb,rfl⟩:=Xj.1 ha;split
  ·intro hh;have:=ZaA (b.p.cores++[core]);have h0:(srt (b.p.cores++[core])).length=0:=congrArg Xn hh;simp at this;omega
  ·rename_i hbk;rw [if_neg hbk] at hen;exact hc b hb hen
 | exit k st e h1 => exact Zos hc (ZiR h h1 st)
 | kill zs => exact Zos hc (KB (-1) zs es h)
 | wait k => exact Zos (K := []) (st := 0) hc (Zkf es k)
 | depart core _ => exact Zpi h
end
section
open Go Go.AM Go.Proofs.Ytpjnmgjphfnmmaa
set_option maxRecDepth 100000
variable {rows:LL} {F:JZ}
theorem Zx0 {m:MS} {r:RS} (b:Bo rows m r F) {x y:LL} (hx:Zd x = .oref (m.jm+1) 0) (hy:Zd y = .oref (r.jr+1) 0) (hlast:m.last < 1048576) (parent core:Int) {nm:ByteArray} (hn:nm.size≤60) :
  ∃ v e rows1 rows2 m' r' X,g10 x parent nm core rows=Xa (v,e,rows1)∧g34 y parent nm core rows1=Xa (v,e,rows2)∧Bo rows2 m' r' (X++F)∧m'.jm=m.jm∧r'.jr=r.jr∧m'.last≤m.last+1∧Stp m.es m.last m'.es m'.last:=by
 have h28:=s28 nm (by omega);have h56:=s56 nm (by omega);have hlr:=Zr0 b.lok b.sm;by_cases hc:YR m.es parent core (Zgp nm)=0
 ·have hc2:YR r.es parent core (Zgp nm)=0:=by rw [← ZgY b.sm];exact hc
  obtain ⟨rows1,e',q1,q2,q3,q4⟩:=s10 b.h b.ok hx h28 hc hlast;have hr1:=q3.perm (X4 _ _ _)
  have hne:r.es≠[]:=by
   obtain ⟨e,he,_⟩:=hlr.one;intro hh;rw [hh] at he
   cases he
  have hl1 : -1000≤r.last∧r.last < 1048576:=by
   obtain ⟨e,he,h1⟩:=hlr.one;have:=hlr.rng e he;have:=b.lst;omega
  obtain ⟨rows2,ja2,G,t1,t2⟩:=s34 hr1 hne hlr.len hy h56 hc2 hl1
  have hrun:∃ p,Yn m.es parent=Xa p:=by
   unfold YR at hc
   cases hp:Yn m.es parent with
   | none => rw [hp] at hc; exact absurd hc (by show ¬ ((17 : Int) = 0); decide)
   | some p => exact ⟨p, rfl⟩
  obtain ⟨p,hp⟩:=hrun
  have hcore:0≤core∧core < 32:=by
   unfold YR at hc;rw [hp] at hc;dsimp only at hc;by_cases h1:Zgp nm=Xb
   ·rw [if_pos h1] at hc;by_cases h2:0≤core∧core < 32
    ·exact h2
    ·rw [if_neg h2] at hc;exact absurd hc (by decide)
   ·rw [if_neg h1] at hc;exact absurd hc (by decide)
  have st:Stp m.es m.last (m.es++[e']) (m.last+1):=.spawn e' p parent core nm hp hcore q2;refine ⟨_,_,rows1,rows2,_,_,_,q1,by rw [b.lst];exact t1,b.step (m':={ m with es:=m.es++[e'],last:=m.last+1 }) (mvM t2) q4 (ZvI b.sm (.cons ⟨?_,?_,?_,?_,?_,?_⟩ .nil)) (by show m.last+1=r.last+1;rw [b.lst]) st,rfl,rfl,Int.le_refl _,st⟩
  ·rw [q2,b.lst]
  ·rw [q2]
  ·rw [q2]
  ·rw [q2]
  ·rw [q2]
  ·rw [q2]
 ·have hc2:YR r.es parent core (Zgp nm)≠0:=by rw [← ZgY b.sm];exact hc
  have q1:=Zu0 b.h hx h28 hc;have t1:=ZuT (b.h.perm (X4 _ _ _)) hlr.len hy h56 hc2;rw [← ZgY b.sm] at t1;exact ⟨_,_,rows,rows,m,r,[],q1,t1,b,rfl,rfl,by omega,.same⟩
theorem ZwU {m:MS} {r:RS} (b:Bo rows m r F) {x y:LL} (hx:Zd x = .oref (m.jm+1) 0) (hy:Zd y = .oref (r.jr+1) 0) (hlast:m.last < 1048576) (k0 k1 k2 k3:Int) (raw:Bool) (nm:ByteArray) :
  ∃ rows2 m' r' X,g17 x y k0 k1 k2 k3 raw nm rows=Xa (Xb,rows2)∧Bo rows2 m' r' (X++F)∧m'.jm=m.jm∧r'.jr=r.jr∧m'.last≤m.last+1∧Stp m.es m.last m'.es m'.last:=by
 obtain ⟨id,other,core,status,name,h33,hn⟩:=s33 k0 k1 k2 k3 raw nm;obtain ⟨kd,hk,hk0,hk1⟩:=Zfc k0 (n:=7) (by decide) (by decide);have hlr:=Zr0 b.lok b.sm;have hlr':LOk r.es r.last:=by rw [← b.lst];exact hlr
 have hcl:∀ e∈m.es,e.p.cores.length≤100:=fun e he=>XI (ZrX b.co e he) (by decide)
 have hcr:∀ e∈r.es,e.p.cores.length≤100:=fun e he=>by
  obtain ⟨a,ha,h1⟩:=ZnE b.sm he;rw [← h1.cores.length_eq];exact hcl a ha
 rw [ZvS,h33,Xi];dsimp only;rw [hk,Xi]
 have spawn:∃ rows2 m' r' X,((g10 x id name core rows).bind fun (r15:Int×Int×LL)=>(g34 y id name core r15.2.2).bind fun (r18:Int×Int×LL)=>if (cop .eql r15.1 r18.1)=Xb then Xa ((cop .eql r15.2.1 r18.2.1),r18.2.2) else Xa (Xe,r18.2.2))=Xa (Xb,rows2)∧Bo rows2 m' r' (X++F)∧m'.jm=m.jm∧r'.jr=r.jr∧m'.last≤m.last+1∧Stp m.es m.last m'.es m'.last:=by
  obtain ⟨v,e,rows1,rows2,m',r',F',q1,q2,q3,q4,q5,q6,q7⟩:=Zx0 b hx hy hlast id core hn;refine ⟨rows2,m',r',F',?_,q3,q4,q5,q6,q7⟩;rw [q1,Xi];dsimp only;rw [q2,Xi];dsimp only;rw [if_pos (Ztd _),Ztd]
 by_cases c0:kd=0
 ·rw [if_pos (by simp [cop,c0])];exact spawn
 rw [if_neg (by simp [cop,c0])];by_cases c1:kd=1
 ·rw [if_pos (by simp [cop,c1])];exact spawn
 rw [if_neg (by simp [cop,c1])];by_cases c2:kd=2
 ·rw [if_pos (by simp [cop,c2])];by_cases hc:VV m.es id core=0
  ·have hc2:VV r.es id core=0:=by rw [← Zjw b.sm];exact hc
   obtain ⟨rows1,F1,L,q1,q2,q3⟩:=s35 b.h b.ok hx hcl hc;obtain ⟨rows2,es',t1,t2,t3,_⟩:=s36 (mvR q2) hlr.srt hlr.len hy (k:=id) (core:=core) hcr;rw [t3 hc2] at t2
   have st:Stp m.es m.last (Yp id (ZaF L core) m.es) m.last:=by
    unfold VV at hc
    cases hp:Yn m.es id with
    | none => rw [hp] at hc; exact absurd hc (by show ¬ ((17 : Int) = 0); decide)
    | some p =>
     rw [hp] at hc;dsimp only at hc;by_cases h2:0≤core∧core < 32
     ·rw [if_pos h2] at hc;by_cases h3:core∈p.p.cores
      ·rw [if_pos h3] at hc;exact absurd hc (by decide)
      ·exact .span id core L p hp h3 h2
     ·rw [if_neg h2] at hc;exact absurd hc (by decide)
   refine ⟨rows2,_,_,F1,?_,b.step (m':={ m with es:=Yp id (ZaF L core) m.es }) (r':={ r with es:=Yp id (ZnV core) r.es }) (t2.perm (X4 _ _ _)) q3 (Zri b.sm id core L) b.lst st,rfl,rfl,by show m.last≤m.last+1;omega,st⟩;rw [q1,Xi];dsimp only;rw [t1,Xi,hc2];rfl
  ·have hc2:VV r.es id core≠0:=by rw [← Zjw b.sm];exact hc
   have q1:=ZuR b.h b.ok hx hcl hc;obtain ⟨rows2,es',t1,t2,_,t3⟩:=s36 (b.h.perm (X4 _ _ _)) hlr.srt hlr.len hy (k:=id) (core:=core) hcr;rw [t3 hc2] at t2;refine ⟨rows2,m,r,[],?_,b.step (t2.perm (X4 _ _ _)) b.ok b.sm b.lst .same,rfl,rfl,by omega,.same⟩;rw [q1,Xi];dsimp only;rw [t1,Xi,Zjw b.sm,Ztd]
 rw [if_neg (by simp [cop,c2])];by_cases c3:kd=3
 ·rw [if_pos (by simp [cop,c3])];obtain ⟨rows1,F1,q1,q2,q3⟩:=s13 b.h b.ok hx id status;obtain ⟨rows2,ja2,G,t1,t2⟩:=s37 (mvR q2) hlr' hy id status;obtain ⟨⟨g1,g2⟩,g3⟩:=Ztb b.sm id status
  have hrl:(KW m.es id status).1.2.length≤1000000:=by
   unfold KW;split
   ·simp
   ·split
    ·simp
    ·split
     ·simp
     ·have:=Zcc m.es id status;have:=b.lok.len;dsimp only;omega
  have st:Stp m.es m.last (KW m.es id status).1.1 m.last:=by
   unfold KW;split
   ·exact .same
   ·rename_i e he;split
    ·exact .same
    ·split
     ·exact .same
     ·exact .exit id status e he
  refine ⟨rows2,_,_,G++F1,?_,b.step (m':={ m with es:=(KW m.es id status).1.1 }) (r':={ r with ja:=ja2,es:=(KW r.es id status).1.1 }) (by rw [Xo];exact mvM t2) q3 g1 b.lst st,rfl,rfl,by show m.last≤m.last+1;omega,st⟩;rw [q1,Xi];dsimp only;rw [t1,Xi];dsimp only;rw [← g2,s38 _ hrl,Xi,if_pos rfl,g3,Ztd]
 rw [if_neg (by simp [cop,c3])];by_cases c4:kd=4
 ·rw [if_pos (by simp [cop,c4])];obtain ⟨rows1,F1,q1,q2,q3⟩:=s21 b.h b.ok hx id other;obtain ⟨rows2,ja2,G,t1,t2⟩:=s39 (mvR q2) hlr' hy id other;obtain ⟨⟨g1,g2⟩,g3⟩:=ZsW b.sm id other;have hdl:=ZgL b.ok other
  have hrl:(Vx m.es id other).1.2.length≤1000000:=by
   unfold Vx;split
   ·simp
   ·split
    ·simp
    ·split
     ·exact Zqk b _ _ (by simp;omega)
     ·simp
  have st:Stp m.es m.last (Vx m.es id other).1.1 m.last:=by
   unfold Vx;split
   ·exact .same
   ·split
    ·exact .same
    ·split
     ·exact .kill _
     ·exact .same
  refine ⟨rows2,_,_,G++F1,?_,b.step (m':={ m with es:=(Vx m.es id other).1.1 }) (r':={ r with ja:=ja2,es:=(Vx r.es id other).1.1 }) (by rw [Xo];exact mvM t2) q3 g1 b.lst st,rfl,rfl,by show m.last≤m.last+1;omega,st⟩;rw [q1,Xi];dsimp only;rw [t1,Xi];dsimp only;rw [← g2,s38 _ hrl,Xi,if_pos rfl,g3,Ztd]
 rw [if_neg (by simp [cop,c4])];by_cases c5:kd=5
 ·rw [if_pos (by simp [cop,c5])];obtain ⟨rows1,F1,q1,q2,q3⟩:=s11 b.h b.ok hx id;obtain ⟨rows2,ja2,G,t1,t2⟩:=s40 (mvR q2) hlr' hy id;obtain ⟨g1,g2⟩:=ZtB b.sm id;have st:Stp m.es m.last (YD m.es id).1 m.last:=.wait id;refine ⟨rows2,_,_,G++F1,?_,b.step (m':={ m with es:=(YD m.es id).1 }) (r':={ r with ja:=ja2,es:=(YD r.es id).1 }) (by rw [Xo];exact mvM t2) q3 g1 b.lst st,rfl,rfl,by show m.last≤m.last+1;omega,st⟩;rw [q1,Xi];dsimp only;rw [t1,Xi];dsimp only;rw [← g2,if_pos (by simp [cop]),if_pos (by simp),Ztd]
 rw [if_neg (by simp [cop,c5])];obtain ⟨rows1,F1,q1,q2,q3⟩:=s23 b.h b.ok hx (core:=core) hcl;obtain ⟨rows2,ja2,G,t1,t2⟩:=s41 (mvR q2) hlr' hy (core:=core) hcr
 have hbl:(Zez core m.es).length≤64:=by
  unfold Zez;rw [List.length_map];exact XI (List.length_filter_le _ _) b.lok.len
 have hge:Eqv (YP m.es core).1 (Vb r.es core).1∧(YP m.es core).2=(Vb r.es core).2:=by
  rw [Zou b.lok];unfold Vb;split
  ·rw [← Zq1 b.sm];exact ⟨Zbt (-2) _ (ZuA b.sm core),rfl⟩
  ·exact ⟨⟨b.sm,rfl⟩,rfl⟩
 obtain ⟨⟨g1,g2⟩,g3⟩:=hge
 have hrl:(YP m.es core).1.2.length≤1000000:=by
  unfold YP;split
  ·have:=W0 (-2) (Zez core m.es) _ m.last (Zb8 b.lok core);dsimp only;omega
  ·simp
 have st:Stp m.es m.last (YP m.es core).1.1 m.last:=by
  unfold YP;split
  ·rename_i hcr;exact .depart core hcr
  ·exact .same
 refine ⟨rows2,_,_,G++F1,?_,b.step (m':={ m with es:=(YP m.es core).1.1 }) (r':={ r with ja:=ja2,es:=(Vb r.es core).1.1 }) (by rw [Xo];exact mvM t2) q3 g1 b.lst st,rfl,rfl,by show m.last≤m.last+1;omega,st⟩;rw [q1,Xi];dsimp only;rw [t1,Xi];dsimp only;rw [← g2,s38 _ hrl,Xi,if_pos rfl,g3,Ztd]
def EC (es:List PE):Prop:=∀ e∈es,e.p.ended=Xb→e.c=Xc
def Er (es es':List PE):Prop:=∀ e'∈es',e'.c=Xc∨∃ e∈es,e.c=e'.c∧e.p.ended=e'.p.ended
theorem K9 (es:List PE):Er es es:=fun e he=>.inr ⟨e,he,rfl,rfl⟩
theorem Zac {a b c:List PE} (h:Er a b) (h2:Er b c):Er a c:=fun e he=>by
 rcases h2 e he with h3 | ⟨d,hd,h4,h5⟩
 ·exact .inl h3
 ·rcases h d hd with h6 | ⟨f,hf,h7,h8⟩
  ·exact .inl (h4 ▸ h6)
  ·exact .inr ⟨f,hf,h7.trans h4,h8.trans h5⟩
theorem ZqO {es es':List PE} (h:EC es) (h2:Er es es'):EC es':=fun e he hen=>by
 rcases h2 e he with h3 | ⟨d,hd,h4,h5⟩
 ·exact h3
 ·rw [← h4];exact h d hd (h5.trans hen)
theorem ZnZ (es:List PE) (k:Int) {f:Pr→Pr} (hen:∀ q,(f q).ended=q.ended):Er es (ZcO k f es):=fun e he=>by
 obtain ⟨a,ha,rfl⟩:=Xj.1 he;refine .inr ⟨a,ha,?_⟩;split
 ·exact ⟨rfl,(hen a.p).symm⟩
 ·exact ⟨rfl,rfl⟩
theorem Zsd (es:List PE) (k:Int):Er es (Wq k es):=fun e he=>.inr ⟨e,(We.1 he).1,rfl,rfl⟩
theorem Zm4 (es:List PE) (par:Int) (c:Pr):Er es (Ym es par c).1:=by
 unfold Ym;split
 ·split
  ·exact Zac (ZnZ es par (f:=fun q=>{ q with waiting:=Xe }) fun _=>rfl) (Zsd _ _)
  ·exact K9 es
 ·exact K9 es
theorem ZsJ (es:List PE) (pid k:Int):Er es (ZQ pid es k).1:=by
 unfold ZQ;split
 ·split
  ·have hu:=ZnZ es k (f:=fun q=>{ q with parent:=1 }) fun _=>rfl;split
   ·exact Zac hu (Zm4 _ _ _)
   ·exact hu
  ·exact K9 es
 ·exact K9 es
theorem ZoJ (pid:Int):∀ (ks:List Int) (es:List PE),Er es (ZV pid es ks).1
 | [], es => K9 es
 | k :: ks, es => Zac (ZsJ es pid k) (ZoJ pid ks _)
theorem Zst (es:List PE) (pid st:Int):Er es (Kf es pid st).1:=by
 have hu:Er es (Yp pid (Yk st) es):=fun e he=>by
  obtain ⟨a,ha,rfl⟩:=Xj.1 he;split
  ·exact .inl rfl
  ·exact .inr ⟨a,ha,rfl,rfl⟩
 unfold Kf;split
 ·split
  ·exact hu
  ·exact Zac hu (Zac (ZoJ pid _ _) (Zm4 _ _ _))
 ·exact K9 es
theorem Zbz (st:Int):∀ (zs:List Int) (es:List PE),Er es (Zi st es zs).1
 | [], es => K9 es
 | z :: zs, es => by
  unfold Zi;split
  ·exact Zac (Zst es z st) (Zbz st zs _)
  ·exact Zbz st zs es
theorem ZsZ (es:List PE) (k:Int):Er es (YD es k).1:=by
 unfold YD;split
 ·exact K9 es
 ·split
  ·exact K9 es
  ·split
   ·exact Zsd _ _
   ·split
    ·exact ZnZ es k (f:=fun q=>{ q with waiting:=Xb }) fun _=>rfl
    ·exact K9 es
theorem Zvz {es es':List PE} {last last':Int} (ho:LOk es last) (h:EC es) (s:Stp es last es' last'):EC es':=by
 cases s with
 | same => exact h
 | spawn e' p parent core nm _ _ h2 =>
  intro e he hen;rcases Xv.1 he with he | he
  ·exact h e he hen
  ·rw [XE] at he;rw [he,h2] at hen
   cases hen
 | span k core L e h1 _ _ =>
  obtain ⟨hf,hen1⟩:=Je h1;have hem:=List.mem_of_find?_eq_some hf;have hek:e.p.id=k:=by have:=List.find?_some hf;simpa using this
  intro a ha hen;obtain ⟨b,hb,rfl⟩:=Xj.1 ha;by_cases hbk:b.p.id=k
  ·have:b=e:=ZwR ho.srt hb hem (hbk.trans hek.symm);subst this;rw [if_pos hbk] at hen;have:b.p.ended=Xb:=hen;rw [hen1] at this
   cases this
  ·rw [if_neg hbk] at hen ⊢;exact h b hb hen
 | exit k st e h1 => exact ZqO h (Zst es k st)
 | kill zs => exact ZqO h (Zbz (-1) zs es)
 | wait k => exact ZqO h (ZsZ es k)
 | depart core _ =>
  refine ZqO (fun e he hen=>?_) (Zbz (-2) _ _);obtain ⟨a,ha,rfl⟩:=Xj.1 he;have:=h a ha hen;unfold Yj;rw [this];rfl
theorem ZwB {es:List PE} (hrc:RC es) (hec:EC es):NC es:=fun e he hc=>by
 refine hec e he ?_
 cases hen:e.p.ended with
 | true => rfl
 | false => exact absurd hc (hrc e he hen)
end
end Go.W
namespace Go.Proofs.Ytpjnmgjphfnmmaa
open Go Go.AM Go.RowKit Go.Lib
theorem cellAt {w:World} {b o:Nat} {arr:Array Value} {t:TypeId} {fr:Nat×Nat} {v:Value} (h:w.heap[b]? = Xa (.cells arr t fr)) (hv:arr[o]? = Xa v):w.cell? ⟨b,o,Xc⟩=Xa v:=by simp [World.cell?,h,hv]
theorem Zb4 (w:World) (o:Obj):(w.alloc o).heap[w.heap.size]? = Xa o:=by
 show (w.heap.push o)[w.heap.size]? = Xa o;simp
theorem Zvg:(Try.prog.info? 3).map (fun i=>(i.zero,i.size,i.bytes))=Xa (Xa (.int .i64 0),1,8):=by kernel_rfl
set_option maxHeartbeats 2000000 in
set_option maxRecDepth 100000 in
theorem ZtV (b n c:Nat) (zs:List Int) (w:World) (hz:n≤zs.length) (hbig:n*8≤140737488355328) (hc:∀ j,j < zs.length→w.cell? ⟨b,0+j,Xc⟩=Xa (.int .i64 (zs.getD j 0))) :
  Calls Try.prog 53 #[.slice (Xa ⟨b,0,Xc⟩) n c] w fun e w'=>∃ v',e = .returned v'∧w'.ownsRow w.heap.size 3 1 v' n ((zs.take n).map (Value.int .i64))∧v'≠.slice Xc 0 0∧Below w.heap.size w w':=by
 obtain ⟨i0,hi,hz0,hz1,hz2⟩:=info_parts Zvg;have q22:∀ (w:World) (a:Option Addr) (n c n' c':Nat),(binOp .eql 22 (.slice a n c) (.slice Xc n' c')).run Try.prog w = .ok (.bool a.isNone) w:=fun w a n c n' c'=>Lib.run_eql_slice_nil w _ _ a n c n' c' Try.underlying22;have A:Aside (∀ j,j < zs.length→w.cell? ⟨b,0+j,Xc⟩=Xa (.int .i64 (zs.getD j 0))):=hc;clear hc
 go_enter Try.func53,Try.ntmps53
 go_wp2_with (at_builtin;refine wpList_append_own _ rfl _ _ 22 rfl w.heap.size 3 i0 (.int .i64 0) 1 8 Try.underlying22 hi hz0 hz1 hz2 rfl (by decide) _ _ _ rfl (World.ownsRow_made w #[] 0 (Xy _) (X5 _) rfl) ⟨b,0,Xc⟩ n c ((zs.take n).map (Value.int .i64)) rfl ?qc1 ?qc2 ?qc3 ?qc4 ?qc5 ?qc6 ?_)
 case qc1=>simp;omega
 case qc2=>
  intro j u hj
  have hjn:j < n∧j < zs.length:=by
   have:=(Xk.1 hj).1;simp at this;omega
  rw [Addr.add_lit];refine Lib.cell?_alloc_some _ ?_;rw [A.out j hjn.2];have e:((zs.take n).map (Value.int .i64))[j]? = Xa (Value.int .i64 (zs.getD j 0)):=by simp [List.getD,hjn.1,Xp hjn.2]
  rw [e] at hj;exact hj
 case qc3=>intro u hu;obtain ⟨x,_,rfl⟩:=Xj.1 hu;rfl
 case qc4=>unfold maxLen;omega
 case qc5=>omega
 case qc6=>simp
 intro v' w1 hown hgrow hnil
 go_wp2
 go_ret
 refine ⟨v',rfl,by simpa using hown,?_,?_⟩
 ·exact hnil
 ·exact ((Below.refl _ w).alloc (Xy _) _).grown hgrow (by simp) (by intro k hk;simp [Value.ownBlock] at hk;omega)
theorem ZjW (n c:Nat) (w:World) :
  Calls Try.prog 53 #[.slice Xc n c] w fun e w'=>e = .returned (.slice Xc 0 0)∧w'=w:=by
 have q22:∀ (w:World) (a:Option Addr) (n c n' c':Nat),(binOp .eql 22 (.slice a n c) (.slice Xc n' c')).run Try.prog w = .ok (.bool a.isNone) w:=fun w a n c n' c'=>Lib.run_eql_slice_nil w _ _ a n c n' c' Try.underlying22
 go_enter Try.func53,Try.ntmps53
 go_wp2
 go_ret
 exact ⟨rfl,rfl⟩
set_option maxHeartbeats 2000000 in
set_option maxRecDepth 100000 in
theorem ZiI (a:Addr) (c:Nat) (w:World) :
  Calls Try.prog 53 #[.slice (Xa a) 0 c] w fun e w'=>∃ a',e = .returned (.slice a' 0 0)∧Below w.heap.size w w':=by
 obtain ⟨i0,hi,hz0,hz1,hz2⟩:=info_parts Zvg;have q22:∀ (w:World) (a:Option Addr) (n c n' c':Nat),(binOp .eql 22 (.slice a n c) (.slice Xc n' c')).run Try.prog w = .ok (.bool a.isNone) w:=fun w a n c n' c'=>Lib.run_eql_slice_nil w _ _ a n c n' c' Try.underlying22
 go_enter Try.func53,Try.ntmps53
 go_wp2_with fail
 go_ret
 exact ⟨_,rfl,(Below.refl _ w).alloc (Xy _) _⟩
theorem Zsj {W:World} {b:Nat} {t:TypeId} {v0 v1 v2 v3 v4 v5 v6:Value} (h:W.heap[b]? = Xa (.cells #[v0,v1,v2,v3,v4,v5,v6] t (0,0))):(W.cell? ⟨b,0,Xc⟩=Xa v0∧W.cell? ⟨b,1,Xc⟩=Xa v1∧W.cell? ⟨b,2,Xc⟩=Xa v2∧W.cell? ⟨b,3,Xc⟩=Xa v3∧W.cell? ⟨b,4,Xc⟩=Xa v4∧W.cell? ⟨b,5,Xc⟩=Xa v5∧W.cell? ⟨b,6,Xc⟩=Xa v6)∧W.frozen? ⟨b,0,Xc⟩=Xe∧W.frozen? ⟨b,1,Xc⟩=Xe∧W.frozen? ⟨b,2,Xc⟩=Xe∧W.frozen? ⟨b,3,Xc⟩=Xe∧W.frozen? ⟨b,4,Xc⟩=Xe∧W.frozen? ⟨b,5,Xc⟩=Xe∧W.frozen? ⟨b,6,Xc⟩=Xe:=by
 have f:∀ i,W.frozen? ⟨b,i,Xc⟩=Xe:=fun i=>by simp [World.frozen?,h]
 exact ⟨⟨cellAt h rfl,cellAt h rfl,cellAt h rfl,cellAt h rfl,cellAt h rfl,cellAt h rfl,cellAt h rfl⟩,f 0,f 1,f 2,f 3,f 4,f 5,f 6⟩
set_option maxHeartbeats 4000000 in
set_option maxRecDepth 100000 in
theorem Zsc (w:World) (b:Nat) (z0 z1:Int) (s2:ByteArray) (p3:Option Addr) (n3 c3:Nat) (b4:Bool) (z5:Int) (b6:Bool) (ar:Array Value) (tt:TypeId) (hb:w.heap[b]? = Xa (.cells ar tt (0,0))) (ha:∀ i,i < 7→ar[i]? = (#[.int .i64 z0,.int .i64 z1,.string s2,.slice p3 n3 c3,.bool b4,.int .i64 z5,.bool b6] : Array Value)[i]?) (Q:World→Value→World→Prop)
  (hq:∀ W,Below w.heap.size w W→Calls Try.prog 53 #[.slice p3 n3 c3] W fun e w'=>∃ p n c,e = .returned (.slice p n c)∧Below W.heap.size W w'∧Q W (.slice p n c) w') :
  Calls Try.prog 31 #[.pointer (Xa ⟨b,0,Xc⟩)] w fun e w'=>∃ v' W W',e = .returned (.agg #[.int .i64 z0,.int .i64 z1,.string s2,v',.bool b4,.int .i64 z5,.bool b6])∧w.heap.size≤W.heap.size∧Q W v' W'∧Below w.heap.size w w'∧W'.heap.size=w'.heap.size∧∀ k,W.heap.size≤k→w'.heap[k]? = W'.heap[k]?:=by
 have d0:∀ o,(w.alloc o).cell? ⟨b,0,Xc⟩=Xa (.int .i64 z0):=fun o=>Lib.cell?_alloc_some _ (cellAt (o:=0) hb ((ha 0 (by decide)).trans rfl));have d1:∀ o,(w.alloc o).cell? ⟨b,1,Xc⟩=Xa (.int .i64 z1):=fun o=>Lib.cell?_alloc_some _ (cellAt (o:=1) hb ((ha 1 (by decide)).trans rfl));have d2:∀ o,(w.alloc o).cell? ⟨b,2,Xc⟩=Xa (.string s2):=fun o=>Lib.cell?_alloc_some _ (cellAt (o:=2) hb ((ha 2 (by decide)).trans rfl));have d3:∀ o,(w.alloc o).cell? ⟨b,3,Xc⟩=Xa (.slice p3 n3 c3):=fun o=>Lib.cell?_alloc_some _ (cellAt (o:=3) hb ((ha 3 (by decide)).trans rfl));have d4:∀ o,(w.alloc o).cell? ⟨b,4,Xc⟩=Xa (.bool b4):=fun o=>Lib.cell?_alloc_some _ (cellAt (o:=4) hb ((ha 4 (by decide)).trans rfl));have d5:∀ o,(w.alloc o).cell? ⟨b,5,Xc⟩=Xa (.int .i64 z5):=fun o=>Lib.cell?_alloc_some _ (cellAt (o:=5) hb ((ha 5 (by decide)).trans rfl));have d6:∀ o,(w.alloc o).cell? ⟨b,6,Xc⟩=Xa (.bool b6):=fun o=>Lib.cell?_alloc_some _ (cellAt (o:=6) hb ((ha 6 (by decide)).trans rfl));have d7:∀ o o',((w.alloc o).alloc o').cell? ⟨b,3,Xc⟩=Xa (.slice p3 n3 c3):=fun o o'=>Lib.cell?_alloc_some _ (d3 o);have hsz:∀ o o',((w.alloc o).alloc o').heap.size=w.heap.size+2:=fun o o'=>by simp
 have hN:∀ o o',((w.alloc o).alloc o').heap[w.heap.size]? = Xa o:=fun o o'=>by rw [Below.heap_alloc _ _ _ (by simp)];exact Zb4 w o
 have hM:∀ o o',((w.alloc o).alloc o').heap[w.heap.size+1]? = Xa o':=fun o o'=>by have:=Zb4 (w.alloc o) o';simpa using this
 go_enter Try.func31,Try.ntmps31
 go_wp2_with (first | (go_at_call 53;refine (hq _ (((Below.refl _ w).alloc (Xy _) _).alloc (by simp) _)).mono ?_;rintro e W2 ⟨p',n',c',rfl,gB,g⟩;rw [hsz] at gB;have x0:=(gB.block w.heap.size (by omega)).trans (hN _ _);have x1:=(gB.block (w.heap.size+1) (by omega)).trans (hM _ _);obtain ⟨⟨y0,y1,y2,y3,y4,y5,y6⟩,f0,f1,f2,f3,f4,f5,f6⟩:=Zsj x0;obtain ⟨⟨q0,q1,q2,q3,q4,q5,q6⟩,k0,k1,k2,k3,k4,k5,k6⟩:=Zsj x1) | fail)
 refine bodyPost_ret (results_cell_row rfl _ _ w.heap.size 57 #[.int .i64 z0,.int .i64 z1,.string s2,.slice p' n' c',.bool b4,.int .i64 z5,.bool b6] (0,0) _ rfl ?hF Try.underlying57 rfl (by kernel_rfl)) rfl ?_
 case hF=>exact heap_setCell_same _ _ 6 _ _ _ (heap_setCell_same _ _ 5 _ _ _ (heap_setCell_same _ _ 4 _ _ _ (heap_setCell_same _ _ 3 _ _ _ (heap_setCell_same _ _ 2 _ _ _ (heap_setCell_same _ _ 1 _ _ _ (heap_setCell_same _ _ 0 _ _ _ ((Below.heap_setCell _ _ _ _ (by dsimp only;omega)).trans x0)))))))
 have hS:∀ (W:World) (i j:Nat) (v:Value) (k:Nat),w.heap.size+2≤k→i≤1→(W.setCell ⟨w.heap.size+i,j,Xc⟩ v).heap[k]? = W.heap[k]?:=fun W i j v k h1 h2=>Below.heap_setCell W _ v k (by show k≠w.heap.size+i;omega);have hS0:∀ (W:World) (j:Nat) (v:Value) (k:Nat),w.heap.size+2≤k→(W.setCell ⟨w.heap.size,j,Xc⟩ v).heap[k]? = W.heap[k]?:=fun W j v k h1=>hS W 0 j v k h1 (by omega);have gB1:Below w.heap.size w W2:=(((Below.refl _ w).alloc (Xy _) _).alloc (by simp) _).trans (gB.mono (by omega));refine ⟨_,_,W2,rfl,?_,g,?_,?_,fun k hk=>?_⟩
 ·rw [hsz];omega
 ·refine (((((((gB1.setCell ?_ _).setCell ?_ _).setCell ?_ _).setCell ?_ _).setCell ?_ _).setCell ?_ _).setCell ?_ _).setCell ?_ _<;>(dsimp only;omega)
 ·simp
 ·rw [hsz] at hk;rw [hS0 _ _ _ _ hk,hS0 _ _ _ _ hk,hS0 _ _ _ _ hk,hS0 _ _ _ _ hk,hS0 _ _ _ _ hk,hS0 _ _ _ _ hk,hS0 _ _ _ _ hk,hS _ 1 _ _ _ hk (by omega)]
theorem ZqC (w:World) (b:Nat) (z0 z1:Int) (s2:ByteArray) (a:Option Addr) (b4:Bool) (z5:Int) (b6:Bool) (ar:Array Value) (tt:TypeId) (hb:w.heap[b]? = Xa (.cells ar tt (0,0))) (ha:∀ i,i < 7→ar[i]? = (#[.int .i64 z0,.int .i64 z1,.string s2,.slice a 0 0,.bool b4,.int .i64 z5,.bool b6] : Array Value)[i]?) :
  Calls Try.prog 31 #[.pointer (Xa ⟨b,0,Xc⟩)] w fun e w'=>∃ a',e = .returned (.agg #[.int .i64 z0,.int .i64 z1,.string s2,.slice a' 0 0,.bool b4,.int .i64 z5,.bool b6])∧Below w.heap.size w w':=by
 refine (Zsc w b z0 z1 s2 a 0 0 b4 z5 b6 ar tt hb ha (fun W v w'=>∃ a',v = .slice a' 0 0) fun W _=>?_).mono ?_
 ·cases a with
  | none => exact (ZjW 0 0 W).mono fun e w' ⟨h1, h2⟩ => ⟨Xc, 0, 0, h1, h2 ▸ Below.refl _ _, Xc, rfl⟩
  | some a => exact (ZiI a 0 W).mono fun e w' ⟨a', h1, h2⟩ => ⟨a', 0, 0, h1, h2, a', rfl⟩
 ·rintro e w' ⟨v',W,W',rfl,_,⟨a',rfl⟩,h,_⟩;exact ⟨a',rfl,h⟩
theorem Zqf (w:World) (b:Nat) (z0 z1:Int) (s2:ByteArray) (b3 n c:Nat) (b4:Bool) (z5:Int) (b6:Bool) (ar:Array Value) (tt:TypeId) (hb:w.heap[b]? = Xa (.cells ar tt (0,0))) (ha:∀ i,i < 7→ar[i]? = (#[.int .i64 z0,.int .i64 z1,.string s2,.slice (Xa ⟨b3,0,Xc⟩) n c,.bool b4,.int .i64 z5,.bool b6] : Array Value)[i]?)
  (arr:Array Value) (t:TypeId) (zs:List Int) (hb3:w.heap[b3]? = Xa (.cells arr t (0,0))) (hn:0 < n) (hzn:zs.length=n) (hnl:n≤100001) (hz:arr.toList.take n=zs.map (Value.int .i64)) :
  Calls Try.prog 31 #[.pointer (Xa ⟨b,0,Xc⟩)] w fun e w'=>∃ g cap cur,e = .returned (.agg #[.int .i64 z0,.int .i64 z1,.string s2,.slice (Xa ⟨g,0,Xc⟩) n cap,.bool b4,.int .i64 z5,.bool b6])∧Below w.heap.size w w'∧
   w.heap.size≤g∧w'.heap[g]? = Xa (.cells cur 3 (0,0))∧n≤cap∧cap≤maxLen∧cur.size=cap∧cur.toList.take n=zs.map (Value.int .i64):=by
 have hcell:∀ j,j < zs.length→w.cell? ⟨b3,0+j,Xc⟩=Xa (.int .i64 (zs.getD j 0)):=fun j hj=>by
  rw [XH];refine cellAt hb3 ?_;have h1:(arr.toList.take n)[j]? = Xa (.int .i64 zs[j]):=by rw [hz,Xl,Xp hj];rfl
  rw [XC,if_pos (by omega),Wg] at h1;rw [h1,List.getD_eq_getElem?_getD,Xp hj];rfl
 have hlt3:b3 < w.heap.size:=(Wk.1 hb3).1;refine (Zsc w b z0 z1 s2 _ n c b4 z5 b6 ar tt hb ha (fun W v w'=>∃ g cap cur,v = .slice (Xa ⟨g,0,Xc⟩) n cap∧W.heap.size≤g∧w'.heap[g]? = Xa (.cells cur 3 (0,0))∧n≤cap∧cap≤maxLen∧cur.size=cap∧cur.toList.take n=zs.map (Value.int .i64)) fun W hW=>?_).mono ?_
 ·have hc:∀ j,j < zs.length→W.cell? ⟨b3,0+j,Xc⟩=Xa (.int .i64 (zs.getD j 0)):=fun j hj=>(hW.cell hlt3).trans (hcell j hj);refine (ZtV b3 n c zs W (by omega) (by omega) hc).mono ?_;rintro e w' ⟨v',rfl,hown,hnil,hB⟩;rcases hown.2 with ⟨rfl,hn0⟩ | ⟨g,cap,cur,rfl,hbg,hg,hnc,hcm,hcs,htake⟩
  ·exact (hnil rfl).elim
  ·refine ⟨_,_,_,rfl,hB,g,cap,cur,rfl,hbg,hg,hnc,hcm,by rw [hcs,Wj],?_⟩;rw [Wj] at htake;rw [htake,← hzn,List.take_length]
 ·rintro e w' ⟨v',W,W',rfl,h1,⟨g,cap,cur,rfl,g1,g2,g3,g4,g5,g6⟩,h2,h3,h4⟩;exact ⟨g,cap,cur,rfl,h2,by omega,(h4 g g1).trans g2,g3,g4,g5,g6⟩
open Go Go.AM Go.RowKit Go.Lib Go.MapKept
structure PV where
 z0:Int
 z1:Int
 s2:ByteArray
 b4:Bool
 z5:Int
 b6:Bool
 zs:List Int
def PV.cells (p:PV) (v:Value):Array Value:=#[.int .i64 p.z0,.int .i64 p.z1,.string p.s2,v,.bool p.b4,.int .i64 p.z5,.bool p.b6]
def PIn (w:World) (v:Value) (p:PV):Prop:=∃ b v3 ar tt,v = .pointer (Xa ⟨b,0,Xc⟩)∧w.heap[b]? = Xa (.cells ar tt (0,0))∧(∀ i,i < 7→ar[i]? = (p.cells v3)[i]?)∧
 ((p.zs = []∧∃ a,v3 = .slice a 0 0)∨∃ b3 c arr t,v3 = .slice (Xa ⟨b3,0,Xc⟩) p.zs.length c∧w.heap[b3]? = Xa (.cells arr t (0,0))∧0 < p.zs.length∧p.zs.length≤100001∧arr.toList.take p.zs.length=p.zs.map (Value.int .i64))
def ZsD (w:World) (b:Nat) (a:Option (Nat×Nat)) (p:PV):Prop:=∃ v3,w.heap[b]? = Xa (.cells (p.cells v3) 57 (0,0))∧
 ((a=Xc∧p.zs = []∧∃ a,v3 = .slice a 0 0)∨∃ g cap cur,a=Xa (g,cap)∧v3 = .slice (Xa ⟨g,0,Xc⟩) p.zs.length cap∧w.heap[g]? = Xa (.cells cur 3 (0,0))∧0 < p.zs.length∧p.zs.length≤cap∧cap≤maxLen∧cur.size=cap∧
  cur.toList.take p.zs.length=p.zs.map (Value.int .i64))
theorem Zt6 {w:World} {v:Value} {p:PV} (h:PIn w v p):Calls Try.prog 31 #[v] w fun e w'=>∃ v3,e = .returned (.agg (p.cells v3))∧Below w.heap.size w w'∧w.heap.size≤w'.heap.size∧
  ((p.zs = []∧∃ a,v3 = .slice a 0 0)∨∃ g cap cur,w.heap.size≤g∧v3 = .slice (Xa ⟨g,0,Xc⟩) p.zs.length cap∧w'.heap[g]? = Xa (.cells cur 3 (0,0))∧0 < p.zs.length∧p.zs.length≤cap∧cap≤maxLen∧cur.size=cap∧
   cur.toList.take p.zs.length=p.zs.map (Value.int .i64)):=by
 obtain ⟨b,v3,ar,tt,rfl,hb,ha,⟨hz,a,rfl⟩ | ⟨b3,c,arr,t,rfl,h3,h0,hl,ht⟩⟩:=h
 ·refine (ZqC w b p.z0 p.z1 p.s2 a p.b4 p.z5 p.b6 ar tt hb ha).mono ?_;rintro e w' ⟨a',rfl,hB⟩;exact ⟨_,rfl,hB,hB.size,.inl ⟨hz,a',rfl⟩⟩
 ·refine (Zqf w b p.z0 p.z1 p.s2 b3 p.zs.length c p.b4 p.z5 p.b6 ar tt hb ha arr t p.zs h3 h0 rfl hl ht).mono ?_;rintro e w' ⟨g,cap,cur,rfl,hB,g1,g2,g3,g4,g5,g6⟩;exact ⟨_,rfl,hB,hB.size,.inr ⟨g,cap,cur,g1,rfl,g2,h0,g3,g4,g5,g6⟩⟩
def bl (B:Nat→Nat) (A:Nat→Option (Nat×Nat)) (x:Nat) (i:Bool):Option Nat:=if i then (A x).map (·.1) else Xa (B x)
structure ZmU (lo:Nat) (es:Array MapEntry) (f:MapEntry→PV) (w:World) (S:MapEntry→Bool) (eo:Array MapEntry) (B:Nat→Nat) (A:Nat→Option (Nat×Nat)):Prop where
 perm:(eo.toList.map fun e=>(e.key,e.val)).Perm ((es.toList.filter S).map fun e=>(e.key,Value.pointer (Xa ⟨B e.born,0,Xc⟩)))
 out:∀ e∈es.toList,S e=Xb→ZsD w (B e.born) (A e.born) (f e)
 rng:∀ e∈es.toList,S e=Xb→∀ i g,bl B A e.born i=Xa g→lo≤g∧g < w.heap.size
 dist:∀ e∈es.toList,S e=Xb→∀ e'∈es.toList,S e'=Xb→∀ i j g,bl B A e.born i=Xa g→bl B A e'.born j=Xa g→e.born=e'.born∧i=j
theorem ZsD.mono {w w':World} {b:Nat} {a:Option (Nat×Nat)} {p:PV} (h:ZsD w b a p) (hb:w'.heap[b]? = w.heap[b]?) (ha:∀ g,a.map (·.1)=Xa g→w'.heap[g]? = w.heap[g]?):ZsD w' b a p:=by
 obtain ⟨v3,h1,h2 | ⟨g,cap,cur,rfl,h3,h4,h5⟩⟩:=h
 ·exact ⟨v3,hb.trans h1,.inl h2⟩
 ·exact ⟨v3,hb.trans h1,.inr ⟨g,cap,cur,rfl,h3,(ha g rfl).trans h4,h5⟩⟩
theorem PIn.mono {w w':World} {v:Value} {p:PV} (h:PIn w v p) (hB:Below w.heap.size w w'):PIn w' v p:=by
 have hk:∀ k o,w.heap[k]? = Xa o→w'.heap[k]? = Xa o:=fun k o hk=>(hB.block k (Wk.1 hk).1).trans hk;obtain ⟨b,v3,ar,tt,rfl,hb,ha,h | ⟨b3,c,arr,t,rfl,h3,h4⟩⟩:=h
 ·exact ⟨b,v3,ar,tt,rfl,hk _ _ hb,ha,.inl h⟩
 ·exact ⟨b,_,ar,tt,rfl,hk _ _ hb,ha,.inr ⟨b3,c,arr,t,rfl,hk _ _ h3,h4⟩⟩
theorem ZpM {lo:Nat} {es:Array MapEntry} {f:MapEntry→PV} {w:World} {B:Nat→Nat} {A:Nat→Option (Nat×Nat)} : ZmU lo es f w (fun e=>(#[] : Array Nat).contains e.born) #[] B A:=by
 have hn:∀ x:Nat,(#[] : Array Nat).contains x=Xe:=fun x=>by simp
 exact ⟨by simp,fun e _ h=>by simp at h,fun e _ h=>by simp at h,fun e _ h=>by simp at h⟩
theorem ZmU.mono {lo:Nat} {es:Array MapEntry} {f:MapEntry→PV} {w w':World} {S:MapEntry→Bool} {eo:Array MapEntry} {B:Nat→Nat} {A:Nat→Option (Nat×Nat)} (h:ZmU lo es f w S eo B A) (hk:∀ k,lo≤k→k < w.heap.size→w'.heap[k]? = w.heap[k]?)
  (hs:w.heap.size≤w'.heap.size):ZmU lo es f w' S eo B A where
 perm:=h.perm
 out e he hS:=(h.out e he hS).mono (by have:=h.rng e he hS Xe _ rfl;exact hk _ this.1 this.2) fun g hg=>by have:=h.rng e he hS Xb g hg;exact hk _ this.1 this.2
 rng e he hS i g hg:=by have:=h.rng e he hS i g hg;omega
 dist:=h.dist
theorem Zl8 {es:List MapEntry} {S:MapEntry→Bool} {e:MapEntry} (hn:(es.map (·.born)).Nodup) (he:e∈es) (hS:S e=Xe):(es.filter fun x=>S x||x.born == e.born).Perm (es.filter S++[e]):=by
 induction es with
 | nil => cases he
 | cons x es ih =>
  have hn':x.born∉es.map (·.born)∧(es.map (·.born)).Nodup:=Wa.1 hn;rcases Xq.1 he with rfl | hm
  ·have h1:es.filter (fun x=>S x||x.born == e.born)=es.filter S:=List.filter_congr fun y hy=>by
    have:y.born≠e.born:=fun h=>hn'.1 (by rw [← h];exact UQ hy);simp [this]
   rw [Wd (by simp),X8 (by simp [hS]),h1];exact (List.perm_append_comm (l₁:=[e]) (l₂:=es.filter S))
  ·have hx:x.born≠e.born:=fun h=>hn'.1 (by rw [h];exact UQ hm)
   cases hSx:S x with
   | true =>
    rw [Wd (by simp [hSx]),Wd hSx];exact (ih hn'.2 hm).cons x
   | false =>
    rw [X8 (by simp [hSx,hx]),X8 (by simp [hSx])];exact ih hn'.2 hm
theorem ZmU.step {lo:Nat} {es:Array MapEntry} {f:MapEntry→PV} {w w':World} {S:MapEntry→Bool} {eo:Array MapEntry} {B:Nat→Nat} {A:Nat→Option (Nat×Nat)} (h:ZmU lo es f w S eo B A) {e:MapEntry} (hn:(es.toList.map (·.born)).Nodup)
  (he:e∈es.toList) (hS:S e=Xe) (hk:∀ k,lo≤k→k < w.heap.size→w'.heap[k]? = w.heap[k]?) (hs:w.heap.size≤w'.heap.size) (hlo:lo≤w.heap.size) {b:Nat} {a:Option (Nat×Nat)} {ck:Nat} (ho:ZsD w' b a (f e)) (hb:w.heap.size≤b∧b < w'.heap.size)
  (ha:∀ g,a.map (·.1)=Xa g→w.heap.size≤g∧g < b) :
  ZmU lo es f w' (fun x=>S x||x.born == e.born) (eo.push ⟨e.key,.pointer (Xa ⟨b,0,Xc⟩),ck⟩) (fun x=>if x=e.born then b else B x) (fun x=>if x=e.born then a else A x):=by
 have hm:=h.mono hk hs;have hinj:∀ x∈es.toList,x.born=e.born→x=e:=fun x hx hxe=>born_inj hn hx he hxe;have hbl:∀ x∈es.toList,S x=Xb→x.born≠e.born:=fun x hx hSx hxe=>by rw [hinj x hx hxe,hS] at hSx;cases hSx
 have hold:∀ x∈es.toList,S x=Xb→∀ i,bl (fun x=>if x=e.born then b else B x) (fun x=>if x=e.born then a else A x) x.born i=bl B A x.born i:=fun x hx hSx i=>by
  unfold bl;dsimp only;rw [if_neg (hbl x hx hSx),if_neg (hbl x hx hSx)]
 have hnew:∀ i g,bl (fun x=>if x=e.born then b else B x) (fun x=>if x=e.born then a else A x) e.born i=Xa g→w.heap.size≤g∧g < w'.heap.size∧(i=Xe→g=b)∧(i=Xb→g < b):=fun i g hg=>by
  unfold bl at hg;dsimp only at hg;rw [if_pos rfl,if_pos rfl] at hg
  cases i with
  | false => cases hg; exact ⟨hb.1, hb.2, fun _ => rfl, fun h => by cases h⟩
  | true => have := ha g hg; exact ⟨this.1, by omega, (by intro h; cases h), fun _ => this.2⟩
 have hcase:∀ x∈es.toList,(S x||x.born == e.born)=Xb→S x=Xb∨x=e:=fun x hx hSx=>by
  rw [Bool.or_eq_true] at hSx;exact hSx.imp id fun hxe=>hinj x hx (by simpa using hxe)
 refine ⟨?_,fun x hx hSx=>?_,fun x hx hSx i g hg=>?_,fun x hx hSx y hy hSy i j g hg hg'=>?_⟩
 ·have h1:=((Zl8 (S:=S) hn he hS).map fun x=>(x.key,Value.pointer (Xa ⟨(fun x=>if x=e.born then b else B x) x.born,0,Xc⟩))).symm;refine List.Perm.trans ?_ h1;rw [XL,Array.toList_push,XL];refine List.Perm.append (h.perm.trans (List.Perm.of_eq ?_)) (List.Perm.of_eq (by simp));refine List.map_congr_left fun x hx=>?_;have:=We.1 hx;simp [hbl x this.1 this.2]
 ·rcases hcase x hx hSx with h1 | rfl
  ·rw [if_neg (hbl x hx h1),if_neg (hbl x hx h1)];exact hm.out x hx h1
  ·rw [if_pos rfl,if_pos rfl];exact ho
 ·rcases hcase x hx hSx with h1 | rfl
  ·rw [hold x hx h1] at hg;have:=hm.rng x hx h1 i g hg;exact this
  ·have:=hnew i g hg;exact ⟨by omega,this.2.1⟩
 ·rcases hcase x hx hSx with h1 | rfl<;>rcases hcase y hy hSy with h2 | rfl
  ·rw [hold x hx h1] at hg;rw [hold y hy h2] at hg';exact h.dist x hx h1 y hy h2 i j g hg hg'
  ·rw [hold x hx h1] at hg;have:=h.rng x hx h1 i g hg;have:=hnew j g hg';omega
  ·rw [hold y hy h2] at hg';have:=h.rng y hy h2 j g hg';have:=hnew i g hg;omega
  ·have h3:=hnew i g hg;have h4:=hnew j g hg';refine ⟨rfl,?_⟩
   cases i<;>cases j
   ·rfl
   ·have:=h3.2.2.1 rfl;have:=h4.2.2.2 rfl;omega
   ·have:=h3.2.2.2 rfl;have:=h4.2.2.1 rfl;omega
   ·rfl
theorem ZeN (seen:Array Nat) (e:MapEntry):(fun x:MapEntry=>(seen.push e.born).contains x.born)=fun x=>seen.contains x.born||x.born == e.born:=by
 funext x;exact contains_push ..
theorem ZbZ {P:Program} {w:World} {b:Nat} {es:Array MapEntry} {clock:Nat} {T kt vt:TypeId} (hT:P.underlying T=Xa (.map kt vt)) (hkt:P.underlying kt=Xa (.int .i64)) (hb:w.heap[b]? = Xa (.map es clock)) (hk:∀ x∈es.toList,∃ z,x.key = .int .i64 z)
  (k:Int) (hnew:∀ x∈es.toList,x.key≠.int .i64 k) (v:Value):(Instr.mapUpdate T (.map (Xa b)) (.int .i64 k) v).run P w = .ok () (JL w b (.map (es.push ⟨.int .i64 k,v,clock⟩) (clock+1))):=by
 have h1:Instr.findNow (.int .i64) (.int .i64 k) es.toList 0=Xa Xc:=by
  rcases findNow_spec (d:=.int .i64) (YK k) es.toList 0 (fun x hx=>by obtain ⟨z,hz⟩:=hk x hx;rw [hz];exact YK z) with ⟨h,_⟩ | ⟨j,e,_,h2,h3⟩
  ·exact h
  ·exact (hnew e (Xm h2) h3).elim
 simp [Instr.mapUpdate,run_underlying hT,MapKept.run_getObj_map hb,MapKept.run_checkKey hkt (YK k),MapKept.run_findKey hkt h1,MapKept.run_setObj_map _ hb,Result.andThen,JL]
section
variable {P:Program} {w:World} {ops:Array Oper} {rest:List Oper} {o:Oper} {a:Act} {Q:Exit→Act→World→Prop}
theorem ZdU (hg:o.guard=Xc) (it:Operand) (hop:o.op=Op.next it Xe) (r bm since c0:Nat) (seen:Array Nat) (es:Array MapEntry) (clock:Nat) (hit:a.eval it = .pointer (Xa ⟨r,0,Xc⟩))
  (hr:w.heap[r]? = Xa (.mapIter (Xa bm) since seen c0)) (hb:w.heap[bm]? = Xa (.map es clock)) (hold:∀ x∈es.toList,x.born < since) (hsc:since≤c0) (hn:(es.toList.map (·.born)).Nodup) (hne:bm≠r)
  (hDone:(leftOf es seen).size=0→wpList P ops Q rest (a.put o.dst (.tuple #[.bool Xe])) w)
  (hMore:∀ e∈(leftOf es seen).toList,∀ w':World,w'.os=w.os→w'.tape=w.tape→w'.output=w.output→w'.heap.size=w.heap.size→(∀ k,k≠r→w'.heap[k]? = w.heap[k]?)→w'.heap[r]? = Xa (.mapIter (Xa bm) since (seen.push e.born) clock)→
   (Instr.entry (.pointer (Xa ⟨r,0,Xc⟩))).run P w' = .ok (.tuple #[e.key,e.val]) w'→wpList P ops Q rest (a.put o.dst (.tuple #[.bool Xb,e.key,e.val])) w') :
  wpList P ops Q (o::rest) a w:=by
 refine wpList_plain hg fun K' hK'=>?_;unfold Oper.wp;rcases run_next_at (P:=P) w o.type r bm since c0 seen es clock hr hb hold hsc with ⟨h0,hrun⟩ | ⟨e,he,w1,hw1,hrun⟩
 ·simp [execOp,hop,hit,hrun,Result.andThen];exact hK' _ _ (hDone h0)
 ·simp [execOp,hop,hit,hrun,Result.andThen];have f1:w1.os=w.os∧w1.tape=w.tape∧w1.output=w.output∧w1.heap=w.heap:=by rcases hw1 with rfl | rfl<;>exact ⟨rfl,rfl,rfl,rfl⟩
  have h2:∀ k,k≠r→(ChangeMaps.setBlock w1 r (.mapIter (Xa bm) since (seen.push e.born) clock)).heap[k]? = w.heap[k]?:=fun k hk=>by
   rw [← f1.2.2.2];exact YA (w:=w1) hk
  have h3:(ChangeMaps.setBlock w1 r (.mapIter (Xa bm) since (seen.push e.born) clock)).heap[r]? = Xa (.mapIter (Xa bm) since (seen.push e.born) clock):=VZ (w:=w1) (by rw [f1.2.2.2];exact hr);refine hK' _ _ (hMore e he _ f1.1 f1.2.1 f1.2.2.1 ?_ h2 h3 (run_entry_at _ r bm since seen es clock e h3 ((h2 bm hne).trans hb) (mem_left he).1 hn));show (w1.heap.setIfInBounds r _).size=w.heap.size;rw [Array.size_setIfInBounds,f1.2.2.2]
theorem Zaq (hg:o.guard=Xc) (T:TypeId) (m k v:Operand) (hop:o.op=Op.mapUpdate T m k v) {kt vt:TypeId} (hT:P.underlying T=Xa (.map kt vt)) (hkt:P.underlying kt=Xa (.int .i64)) (b:Nat) (es:Array MapEntry) (clock:Nat) (hb:w.heap[b]? = Xa (.map es clock))
  (hk:∀ x∈es.toList,∃ z,x.key = .int .i64 z) (z:Int) (hnew:∀ x∈es.toList,x.key≠.int .i64 z) (u:Value) (hm:a.eval m = .map (Xa b)) (hkz:a.eval k = .int .i64 z) (hv:a.eval v=u)
  (h:wpList P ops Q rest (a.put o.dst undef) (JL w b (.map (es.push ⟨.int .i64 z,u,clock⟩) (clock+1)))):wpList P ops Q (o::rest) a w:=by
 refine wpList_plain hg fun K' hK'=>?_;have hrun:=ZbZ hT hkt hb hk z hnew u;unfold Oper.wp;simp [execOp,hop,hm,hkz,hv,hrun,Result.andThen]
 first | exact hK' _ _ h | (have:=hK' _ _ h;simpa using this)
end
def Zwk (w:World) (bq:Nat) (last:Int) (es:Array MapEntry) (clock:Nat) (f:MapEntry→PV) (wr:World):Prop:=
 ∃ (seen:Array Nat) (eo:Array MapEntry) (ck:Nat) (B:Nat→Nat) (A:Nat→Option (Nat×Nat)),Below w.heap.size w wr∧w.heap.size+3≤wr.heap.size∧wr.heap[w.heap.size]? = Xa (.map eo ck)∧Stamped eo ck∧
  wr.heap[w.heap.size+1]? = Xa (.cells #[.map (Xa w.heap.size),.int .i64 last] 71 (0,0))∧wr.heap[w.heap.size+2]? = Xa (.mapIter (Xa bq) clock seen clock)∧ZmU (w.heap.size+3) es f wr (fun e=>seen.contains e.born) eo B A
theorem ZiH {lo:Nat} {es:Array MapEntry} {f:MapEntry→PV} {w:World} {S:MapEntry→Bool} {eo:Array MapEntry} {B:Nat→Nat} {A:Nat→Option (Nat×Nat)} (h:ZmU lo es f w S eo B A) (hk:∀ e∈es.toList,∃ z,e.key = .int .i64 z):∀ x∈eo.toList,∃ z,x.key = .int .i64 z:=fun x hx=>by
 have h1:=h.perm.mem_iff.1 (UQ hx);obtain ⟨y,hy,he⟩:=Xj.1 h1;obtain ⟨z,hz⟩:=hk y (We.1 hy).1;exact ⟨z,(congrArg Prod.fst he).symm.trans hz⟩
theorem ZqL {lo clock:Nat} {es:Array MapEntry} {f:MapEntry→PV} {w:World} {S:MapEntry→Bool} {eo:Array MapEntry} {B:Nat→Nat} {A:Nat→Option (Nat×Nat)} (h:ZmU lo es f w S eo B A) (hs:Stamped es clock) {e:MapEntry} (he:e∈es.toList) (hS:S e=Xe) {z:Int} (hz:e.key = .int .i64 z) :
  ∀ x∈eo.toList,x.key≠.int .i64 z:=fun x hx hxz=>by
 have h1:=h.perm.mem_iff.1 (UQ hx);obtain ⟨y,hy,hye⟩:=Xj.1 h1;have h2:=We.1 hy;have h3:y.key=e.key:=(congrArg Prod.fst hye).trans (hxz.trans hz.symm);have:=entry_eq_of_key ((stamped_iff es clock).1 hs).2.2 h2.1 he h3;subst this;rw [hS] at h2
 cases h2.2
set_option maxHeartbeats 4000000 in
set_option maxRecDepth 100000 in
theorem Zs2 (w:World) (b0 bq:Nat) (last:Int) (es:Array MapEntry) (clock:Nat) (f:MapEntry→PV) (ar:Array Value) (tt:TypeId) (h0:w.heap[b0]? = Xa (.cells ar tt (0,0))) (ha0:ar[0]? = Xa (.map (Xa bq))) (ha1:ar[1]? = Xa (.int .i64 last)) (hq:w.heap[bq]? = Xa (.map es clock)) (hs:Stamped es clock)
  (hk:∀ e∈es.toList,∃ z,e.key = .int .i64 z) (hp:∀ e∈es.toList,PIn w e.val (f e)) :
  Calls Try.prog 24 #[.pointer (Xa ⟨b0,0,Xc⟩)] w fun e w'=>e = .returned (.pointer (Xa ⟨w.heap.size+1,0,Xc⟩))∧Below w.heap.size w w'∧w.heap.size+3≤w'.heap.size∧w'.heap[w.heap.size+1]? = Xa (.cells #[.map (Xa w.heap.size),.int .i64 last] 71 (0,0))∧
   ∃ eo ck B A,w'.heap[w.heap.size]? = Xa (.map eo ck)∧Stamped eo ck∧ZmU (w.heap.size+3) es f w' (fun _=>Xb) eo B A:=by
 have hlt:bq < w.heap.size:=(Wk.1 hq).1;have hlt0:b0 < w.heap.size:=(Wk.1 h0).1;have hmm:=@run_makeMap Try.prog;have d0:∀ o,(w.alloc o).cell? ⟨b0,0,Xc⟩=Xa (.map (Xa bq)):=fun o=>Lib.cell?_alloc_some _ (cellAt (o:=0) h0 ha0);have d1:∀ o,(w.alloc o).cell? ⟨b0,1,Xc⟩=Xa (.int .i64 last):=fun o=>Lib.cell?_alloc_some _ (cellAt (o:=1) h0 ha1);have d2:∀ o o',((w.alloc o).alloc o').cell? ⟨b0,0,Xc⟩=Xa (.map (Xa bq)):=fun o o'=>Lib.cell?_alloc_some _ (d0 o);have hq2:∀ o o',((w.alloc o).alloc o').heap[bq]? = Xa (.map es clock):=fun o o'=>by rw [Below.heap_alloc _ _ _ (by simp;omega),Below.heap_alloc _ _ _ hlt];exact hq
 have hrg:∀ o o',(Instr.range 69 (.map (Xa bq))).run Try.prog ((w.alloc o).alloc o') = .ok (.pointer (Xa ⟨w.heap.size+2,0,Xc⟩)) (((w.alloc o).alloc o').alloc (.mapIter (Xa bq) clock #[] clock)):=fun o o'=>by
  rw [run_range_map _ 69 3 68 bq es clock Try.underlying69 (hq2 o o')];simp
 go_enter Try.func24,Try.ntmps24
 go_wp2_with fail
 go_loopw [4] (fun _ wr=>Zwk w bq last es clock f wr) (fun _ wr=>(leftOf es (wr.iterSeen (w.heap.size+2))).size)
 case atStart=>
  exact ⟨#[],#[],0,fun _=>0,fun _=>Xc,(((Below.refl _ _).alloc (Xy _) _).alloc (by simp) _).alloc (by simp;omega) _,by simp,by rw [Below.heap_alloc _ _ _ (by simp;omega),Below.heap_alloc _ _ _ (by simp)];exact Zb4 w _,stamped_empty 0,
   by rw [Below.heap_alloc _ _ _ (by simp)];have:=Zb4 (w.alloc (.map #[] 0)) (.cells #[.map (Xa w.heap.size),.int .i64 last] 71);simpa using this,by have:=Zb4 ((w.alloc (.map #[] 0)).alloc (.cells #[.map (Xa w.heap.size),.int .i64 last] 71)) (.mapIter (Xa bq) clock #[] clock);simpa using this,ZpM⟩
 case round=>
  obtain ⟨seen,eo,ck,B,A,hB,hsz,i1,i2,i3,i4,hM⟩:=hrel;obtain ⟨hold,hnd,hky⟩:=(stamped_iff es clock).1 hs;have hbq:wr.heap[bq]? = Xa (.map es clock):=(hB.block bq hlt).trans hq
  go_wp2_with (first
   | (at_next; refine ZdU rfl _ rfl (w.heap.size + 2) bq clock clock seen es clock rfl i4 hbq hold (Xy _) hnd (by omega) ?_ ?_)
   | fail)
  ·intro hl0
   go_wp2
   go_ret
   refine ⟨rfl,hB,hsz,i3,eo,ck,B,A,i1,i2,?_⟩;have hall:=all_seen es seen (by rw [hl0];rfl);refine ⟨?_,fun e he _=>hM.out e he (hall e he),fun e he _=>hM.rng e he (hall e he),fun e he _ e' he' _=>hM.dist e he (hall e he) e' he' (hall e' he')⟩;have h1:=hM.perm;rw [Uu.2 hall] at h1;rw [Uu.2 fun _ _=>rfl];exact h1
  ·intro e he w1 f1 f2 f3 f4 f5 f6 f7;obtain ⟨hem,hes⟩:=mem_left (Tk.2 he);obtain ⟨z,hz⟩:=hk e hem;have hB1:Below w.heap.size w w1:=⟨f1.trans hB.os,f2.trans hB.tape,f3.trans hB.output,by have:=hB.size;omega,fun k hk=>(f5 k (by omega)).trans (hB.block k hk)⟩;have hP:PIn w1 e.val (f e):=(hp e hem).mono hB1
   go_wp2_with (first
    | (go_at_call 31; refine (Zt6 hP).mono ?_; rintro e' W3 ⟨v3, rfl, hB3, hS3, hv3⟩; obtain ⟨q1, q2, q3, rfl⟩ : ∃ x n c, v3 = .slice x n c := (by rcases hv3 with ⟨_, a, rfl⟩ | ⟨g, cap, cur, _, rfl, _⟩ <;> exact ⟨_, _, _, rfl⟩); simp only [PV.cells]; have x1 : ∀ o, (W3.alloc o).cell? ⟨w.heap.size + 1, 0, Xc⟩ = Xa (.map (Xa w.heap.size)) := (fun o => Lib.cell?_alloc_some _ (cellAt (o := 0) ((hB3.block _ (by omega)).trans ((f5 _ (by omega)).trans i3)) rfl)); have hnew : ∀ x ∈ eo.toList, x.key ≠ .int .i64 z := (ZqL hM hs hem hes hz); have hkeo : ∀ x ∈ eo.toList, ∃ z, x.key = .int .i64 z := (ZiH hM hk); have i5 : ∀ o, (W3.alloc o).heap[w.heap.size]? = Xa (.map eo ck) := (fun o => (by rw [Below.heap_alloc _ _ _ (by omega)]; exact (hB3.block _ (by omega)).trans ((f5 _ (by omega)).trans i1))))
    | (at_mapUpdate; refine Zaq rfl 69 _ _ _ rfl Try.underlying69 Try.underlying3 w.heap.size eo ck (i5 _) hkeo z hnew (.pointer (Xa ⟨W3.heap.size, 0, Xc⟩)) rfl rfl rfl ?_; go_frame)
    | fail)
   generalize hC:(Obj.cells #[.int .i64 (f e).z0,.int .i64 (f e).z1,.string (f e).s2,.slice q1 q2 q3,.bool (f e).b4,.int .i64 (f e).z5,.bool (f e).b6] 57 (0,0))=C;have hBW:Below w.heap.size w W3:=hB1.trans (hB3.mono (by omega));have hW4:W3.heap.size < (W3.alloc C).heap.size:=by simp
   have hs5:(JL (W3.alloc C) w.heap.size (.map (eo.push ⟨.int .i64 z,.pointer (Xa ⟨W3.heap.size,0,Xc⟩),ck⟩) (ck+1))).heap.size=W3.heap.size+1:=by simp [JL]
   have h5:∀ k,k≠w.heap.size→k < W3.heap.size→(JL (W3.alloc C) w.heap.size (.map (eo.push ⟨.int .i64 z,.pointer (Xa ⟨W3.heap.size,0,Xc⟩),ck⟩) (ck+1))).heap[k]? = W3.heap[k]?:=fun k h1 h2=>(YA h1).trans (Below.heap_alloc _ _ _ h2);have h6:∀ k,k≠w.heap.size→k≠w.heap.size+2→k < wr.heap.size→(JL (W3.alloc C) w.heap.size (.map (eo.push ⟨.int .i64 z,.pointer (Xa ⟨W3.heap.size,0,Xc⟩),ck⟩) (ck+1))).heap[k]? = wr.heap[k]?:=fun k h1 h2 h3=>(h5 k h1 (by omega)).trans ((hB3.block k (by omega)).trans (f5 k h2))
   have hPO:∃ a0,ZsD (JL (W3.alloc C) w.heap.size (.map (eo.push ⟨.int .i64 z,.pointer (Xa ⟨W3.heap.size,0,Xc⟩),ck⟩) (ck+1))) W3.heap.size a0 (f e)∧∀ g,a0.map (·.1)=Xa g→wr.heap.size≤g∧g < W3.heap.size:=by
    have hb:(JL (W3.alloc C) w.heap.size (.map (eo.push ⟨.int .i64 z,.pointer (Xa ⟨W3.heap.size,0,Xc⟩),ck⟩) (ck+1))).heap[W3.heap.size]? = Xa (.cells ((f e).cells (.slice q1 q2 q3)) 57 (0,0)):=by
     refine (YA (by omega)).trans ?_;rw [Zb4,← hC];rfl
    rcases hv3 with h | ⟨g,cap,cur,g1,g2,g3,g4,g5,g6,g7,g8⟩
    ·exact ⟨Xc,⟨_,hb,.inl ⟨rfl,h⟩⟩,fun g hg=>by cases hg⟩
    ·have hgl:g < W3.heap.size:=(Wk.1 g3).1;exact ⟨Xa (g,cap),⟨_,hb,.inr ⟨g,cap,cur,rfl,g2,(h5 g (by omega) hgl).trans g3,g4,g5,g6,g7,g8⟩⟩,fun g' hg=>by cases hg;dsimp only;omega⟩
   obtain ⟨a0,hPO,hga⟩:=hPO;refine ⟨⟨seen.push e.born,eo.push ⟨.int .i64 z,.pointer (Xa ⟨W3.heap.size,0,Xc⟩),ck⟩,ck+1,fun x=>if x=e.born then W3.heap.size else B x,fun x=>if x=e.born then a0 else A x,?_,by omega,VZ (i5 C),stamped_push i2 hnew,(h6 _ (by omega) (by omega) (by omega)).trans i3,?_,?_⟩,?_⟩
   ·refine ⟨hBW.os,hBW.tape,hBW.output,?_,fun k hk=>(h5 k (by omega) (by omega)).trans (hBW.block k hk)⟩;omega
   ·exact (h5 _ (by omega) (by omega)).trans ((hB3.block _ (by omega)).trans f6)
   ·rw [ZeN,← hz];rw [← hz] at hPO h6 hs5;exact hM.step hnd hem hes (fun k h1 h2=>h6 k (by omega) (by omega) h2) (by omega) (by omega) hPO ⟨by omega,by omega⟩ hga
   ·have e1:wr.iterSeen (w.heap.size+2)=seen:=by unfold World.iterSeen;rw [i4]
    have e2:=(h5 (w.heap.size+2) (by omega) (by omega)).trans ((hB3.block _ (by omega)).trans f6);have e3:(JL (W3.alloc C) w.heap.size (.map (eo.push ⟨.int .i64 z,.pointer (Xa ⟨W3.heap.size,0,Xc⟩),ck⟩) (ck+1))).iterSeen (w.heap.size+2)=seen.push e.born:=by unfold World.iterSeen;rw [e2]
    rw [e1,e3];exact left_shrinks es seen e (Tk.2 he)
open Go Go.AM Go.RowKit Go.Lib Go.MapKept
def ZkO (cs:List AV):List Int:=cs.filterMap fun c=>Zl [c]
def Zms (p:PV) (c:AV):List AV:=[.val (.int .i64 p.z0),.val (.int .i64 p.z1),.val (.string p.s2),c,.val (.bool p.b4),.val (.int .i64 p.z5),.val (.bool p.b6)]
def Zdq (rows:LL) (row:List AV):PV:=match row with
 | [.val (.int _ z0), .val (.int _ z1), .val (.string s), c, .val (.bool b4), .val (.int _ z5), .val (.bool b6)] => ⟨z0, z1, s, b4, z5, b6, match c with | .osl _ (j + 1) n => ZkO ((ZG rows (j + 1)).take n) | _ => []⟩
 | _ => ⟨0, 0, .empty, Xe, 0, Xe, []⟩
theorem Zqg (zs:List Int):ZkO (zs.map fun z=>AV.val (.int .i64 z))=zs:=by
 unfold ZkO
 induction zs with
 | nil => rfl
 | cons z zs ih => rw [Xh, Th (f := fun c => Zl [c]) (a := AV.val (.int .i64 z)) (b := z) rfl, ih]
theorem Ze6 {rows:LL} {row:List AV} (h:Zg7 rows row=Xb):((Zdq rows row).zs = []∧row=Zms (Zdq rows row) (.osl 0 0 0))∨
  ∃ j n,row=Zms (Zdq rows row) (.osl 3 (j+1) (n+1))∧ZU (ZG rows (j+1))=Xb∧n+1≤(ZG rows (j+1)).length∧n≤100000∧(ZG rows (j+1)).take (n+1)=(Zdq rows row).zs.map (fun z=>AV.val (.int .i64 z))∧(Zdq rows row).zs.length=n+1:=by
 unfold Zg7 at h;split at h
 case h_2=>cases h
 rename_i z0 z1 s c b4 z5 b6;split at h
 ·exact .inl ⟨rfl,rfl⟩
 ·rename_i j n;simp only [Bool.and_eq_true,decide_eq_true_eq] at h;obtain ⟨⟨⟨h1,h2⟩,h3⟩,h4⟩:=h;obtain ⟨zs,hz⟩:=ZnP h4
  have hp:(Zdq rows [.val (.int .i64 z0),.val (.int .i64 z1),.val (.string s),.osl 3 (j+1) (n+1),.val (.bool b4),.val (.int .i64 z5),.val (.bool b6)]).zs=zs:=by
   show ZkO ((ZG rows (j+1)).take (n+1))=zs;rw [hz,Zqg]
  refine .inr ⟨j,n,rfl,h1,h2,h3,by rw [hp,hz],?_⟩;rw [hp];have:=congrArg Xn hz;simp at this;omega
 ·cases h
theorem ZnJ {rows:LL} {j:Nat} {p:PV} {c:AV} (h:ZG rows (j+1)=Zms p c):ZU (ZG rows (j+1))=Xb:=by rw [h];rfl
theorem Zuy {w:World} {lim:Lm} {Xd:Nat→Option Nat} {rows:LL} {j:Nat} {v:Value} (h:JC Try.prog w lim Xd rows) (hb:Zg7 rows (ZG rows (j+1))=Xb) (hv:Rep w lim (.oref (j+1) 0) v):PIn w v (Zdq rows (ZG rows (j+1))):=by
 obtain ⟨b,cap,ty,h1,rfl⟩:=Kd hv;have hs:=Ze6 hb;generalize Zdq rows (ZG rows (j+1))=p at hs ⊢;have hc:∃ c,ZG rows (j+1)=Zms p c:=by rcases hs with ⟨_,h⟩ | ⟨_,_,h,_⟩ <;> exact ⟨_,h⟩
 obtain ⟨c,hrow⟩:=hc;obtain ⟨b',cap',arr,t,g1,g2,g4,g5,g0,g6,g7,g8,g9⟩:=Ki h (ZnJ hrow);rw [g2] at h1
 cases h1
 rw [hrow] at g7 g9;have hsz:7≤arr.size:=g7
 have hval:∀ (i:Nat) (u:Value),(Zms p c)[i]? = Xa (.val u)→arr[i]? = Xa u:=fun i u hi=>by
  have hlt:i < arr.size:=by have:=(Xk.1 hi).1;simp [Zms] at this;omega
  have:=YU (g9 i _ _ hi (XV hlt));rw [XV hlt,this]
 have h3:Rep w lim c arr[3]:=g9 3 c _ rfl (XV (by omega))
 have hall:∀ i,i < 7→arr[i]? = (p.cells arr[3])[i]?:=fun i hi=>by
  match i,hi with
  | 0, _ => exact hval 0 _ rfl
  | 1, _ => exact hval 1 _ rfl
  | 2, _ => exact hval 2 _ rfl
  | 3, _ => exact XV (by omega)
  | 4, _ => exact hval 4 _ rfl
  | 5, _ => exact hval 5 _ rfl
  | 6, _ => exact hval 6 _ rfl
 refine ⟨b,arr[3],arr,_,rfl,g4,hall,?_⟩;rcases hs with ⟨hz,hr⟩ | ⟨j3,n,hr,k1,k2,k3,k4,k5⟩
 ·have hcc:c = .osl 0 0 0:=by rw [hrow] at hr;simp only [Zms,List.cons.injEq,true_and,and_true] at hr;exact hr
  subst hcc;refine .inl ⟨hz,?_⟩;generalize arr[3]=v3 at h3
  cases h3 with
  | osl0 => exact ⟨_, rfl⟩
  | osl h => exact (Nat.lt_irrefl 0 h).elim
 ·have hcc:c = .osl 3 (j3+1) (n+1):=by rw [hrow] at hr;simp only [Zms,List.cons.injEq,true_and,and_true] at hr;exact hr
  subst hcc;obtain ⟨b3,cap3,m1,m2,m3⟩:=Zdl h3;obtain ⟨b3',cap3',arr3,t3,n1,n2,n4,n5,n0,n6,n7,n8,n9⟩:=Ki h k1;rw [n2] at m1
  cases m1
  refine .inr ⟨b3,cap3,arr3,_,by rw [k5];exact m2,n4,by omega,by omega,?_⟩;rw [k5];apply Wo;intro i;rw [XC];split
  ·rename_i hi;have hia:i < arr3.size:=by omega
   have hzi:p.zs[i]? = Xa (p.zs[i]'(by omega)):=Xp _
   have hra:(ZG rows (j3+1))[i]? = Xa (.val (.int .i64 (p.zs[i]'(by omega)))):=by
    have:((ZG rows (j3+1)).take (n+1))[i]? = (p.zs.map fun z=>AV.val (.int .i64 z))[i]?:=by rw [k4]
    rw [XC,if_pos hi,Xl,hzi] at this;exact this
   have:=YU (n9 i _ _ hra (XV hia));rw [Wg,XV hia,this,Xl,hzi];rfl
  ·rw [List.getElem?_eq_none (by simp;omega)]
theorem clone_row {rows:LL} {row:List AV} (h:Zg7 rows row=Xb) (a:Nat):((Zdq rows row).zs = []∧Kb rows a row=(Zms (Zdq rows row) (.osl 0 0 0),[]))∨
  (0 < (Zdq rows row).zs.length∧Kb rows a row=(Zms (Zdq rows row) (.osl 3 a (Zdq rows row).zs.length),(Zdq rows row).zs.map fun z=>AV.val (.int .i64 z))):=by
 rcases Ze6 h with ⟨hz,hr⟩ | ⟨j3,n,hr,k1,k2,k3,k4,k5⟩
 ·refine .inl ⟨hz,?_⟩;generalize Zdq rows row=p at hr;subst hr;rfl
 ·refine .inr ⟨by omega,?_⟩;rw [← k4,k5];generalize Zdq rows row=p at hr;subst hr;rfl
theorem ZtI:Try.prog.cellsOf 57=7:=by kernel_rfl
theorem ZtR:Try.prog.cellsOf 71=2:=by kernel_rfl
theorem ZsU:Try.prog.cellsOf 3=1:=by kernel_rfl
theorem ZkK {w:World} {lim:Lm} {b:Nat} {p:PV} {v3:Value} {c:AV} (hb:w.heap[b]? = Xa (.cells (p.cells v3) 57 (0,0))) (hl:lim b=0) (hc:c.isCell=Xb) (h3:Rep w lim c v3):Zoc Try.prog w lim (Zms p c) b 1 57:=by
 refine ⟨hl,.inl ⟨_,by decide,hb,by rw [ZtI];rfl,Xy _,fun x hx=>?_,fun i x u hx hu=>?_⟩⟩
 ·simp only [Zms,Xq,List.not_mem_nil,or_false] at hx;rcases hx with rfl | rfl | rfl | rfl | rfl | rfl | rfl<;>first | rfl | exact hc
 ·match i,hx,hu with
  | 0, hx, hu => cases hx; cases hu; exact .val rfl
  | 1, hx, hu => cases hx; cases hu; exact .val rfl
  | 2, hx, hu => cases hx; cases hu; exact .val rfl
  | 3, hx, hu => cases hx; cases hu; exact h3
  | 4, hx, hu => cases hx; cases hu; exact .val rfl
  | 5, hx, hu => cases hx; cases hu; exact .val rfl
  | 6, hx, hu => cases hx; cases hu; exact .val rfl
  | i + 7, hx, _ => simp [Zms] at hx
theorem Zrw {w:World} {lim:Lm} {g cap:Nat} {cur:Array Value} {zs:List Int} (hg:w.heap[g]? = Xa (.cells cur 3 (0,0))) (hl:lim g=0) (h1:zs.length≤cap) (h2:cap≤maxLen) (h3:cur.size=cap) (h4:cur.toList.take zs.length=zs.map (Value.int .i64)) :
  Zoc Try.prog w lim (zs.map fun z=>AV.val (.int .i64 z)) g cap 3:=by
 refine ⟨hl,.inl ⟨cur,h2,hg,by rw [ZsU,Wj];exact h3,by simp;omega,fun x hx=>?_,fun i x u hx hu=>?_⟩⟩
 ·obtain ⟨z,_,rfl⟩:=Xj.1 hx;rfl
 ·rw [Xl] at hx
  cases hz:zs[i]? with
  | none => rw [hz] at hx; cases hx
  | some z =>
   rw [hz] at hx
   cases hx
   have hi:=(Xk.1 hz).1;have h5:(cur.toList.take zs.length)[i]? = Xa u:=by rw [XC,if_pos hi,Wg];exact hu
   rw [h4,Xl,hz] at h5
   cases h5
   exact .val rfl
theorem Zd0 (L:Nat):∀ (l:LL) (i p:Nat),(JE L i l)[p]? = l[p]?.map fun kv=>[kv.getD 0 .dead,.oref (L+3+2*(i+p)) 0]
 | [], i, p => by simp [JE]
 | kv :: l, i, 0 => by simp [JE]
 | kv :: l, i, p + 1 => by
  rw [JE,XQ,Zd0 L l (i+1) p,XQ];rw [show i+1+p=i+(p+1) by omega]
theorem Zcn (rows:LL) (L:Nat):∀ (l:LL) (i p:Nat),(Z4 rows L i l)[2*p]? = l[p]?.map (fun kv=>(Kb rows (L+4+2*(i+p)) (ZG rows (kvJ kv))).1)∧(Z4 rows L i l)[2*p+1]? = l[p]?.map (fun kv=>(Kb rows (L+4+2*(i+p)) (ZG rows (kvJ kv))).2)
 | [], i, p => by simp [Z4]
 | kv :: l, i, 0 => by simp [Z4]
 | kv :: l, i, p + 1 => by
  obtain ⟨h1,h2⟩:=Zcn rows L l (i+1) p;refine ⟨?_,?_⟩
  ·rw [Z4,show 2*(p+1)=(2*p)+1+1 by omega,XQ,XQ,h1,XQ,show i+1+p=i+(p+1) by omega]
  ·rw [Z4,show 2*(p+1)+1=(2*p+1)+1+1 by omega,XQ,XQ,h2,XQ,show i+1+p=i+(p+1) by omega]
theorem VL (rows:LL) (L:Nat):∀ (l:LL) (i:Nat),(Z4 rows L i l).length=2*l.length
 | [], i => rfl
 | kv :: l, i => by rw [Z4, XA, XA, VL rows L l (i + 1), XA]; omega
open Go Go.AM Go.RowKit Go.Lib Go.MapKept
set_option maxRecDepth 10000
theorem Zs0 {P:Program} {w w':World} {lim lim':Lm} {X:Nat→Nat→Option Nat} {cargs:List Value} {rows rows':List (List AV)} {c res:AV} {v:Value} {r':Nat→Option Nat} (hc:ZP c=Xb) (hs:K7 w lim w' lim' (fun b=>∃ i k,X i k=Xa b) Xb) (hr:JC P w' lim' r' rows')
  (hd:∀ k k' b,r' k=Xa b→r' k'=Xa b→k=k') (hz:∀ k b,r' k=Xa b→b < w'.heap.size∧((∃ i k,X i k=Xa b)∨w.heap.size≤b)) (h0:r' 0=X 1 0) (hv:Rep w' lim' res v) (hp:res.isCell=Xb) :
  ∃ v' lim'' X',Ending.returned v = .returned v'∧K7 w lim w' lim'' (fun b=>∃ i k,X i k=Xa b) ([c,AV.store rows].any AV.isSto)∧[AV.dead,AV.store rows'].length = [c,AV.store rows].length∧
   (∀ i,ZS P w' lim'' X' (ZB ([AV.dead,AV.store rows']++[res])) i (ZB ([AV.dead,AV.store rows']++[res]) i) (Zaz [c,AV.store rows].length cargs v' i))∧ZmH X'∧
   (∀ i k b,X' i k=Xa b→b < w'.heap.size∧((∃ i k,X i k=Xa b)∨w.heap.size≤b))∧(∀ i,(ZB ([AV.dead,AV.store rows']++[res]) i).isG=Xb→(ZB [c,AV.store rows] i).isG=Xb∧X' i 0=X i 0)∧VS P [AV.dead,AV.store rows']∧ZsC P w' lim'' X' res [c,AV.store rows].length:=by
 have hX:∀ i k b,(if i=1 then r' k else Xc)=Xa b→i=1∧r' k=Xa b:=fun i k b h=>by
  split at h
  ·exact ⟨by assumption,h⟩
  ·cases h
 have hat:∀ i,ZB ([AV.dead,AV.store rows']++[res]) i=if i=1 then .store rows' else if i=2 then res else .dead:=fun i=>by
  match i with
  | 0 => rfl
  | 1 => rfl
  | 2 => rfl
  | i + 3 => simp [ZB]
 have hnown:∀ k e xs,Jg res k=Xa (e,xs)→False:=fun k e xs h=>by
  cases res<;>first | (cases k<;>cases h;done) | cases hp
 have hany : [c,AV.store rows].any AV.isSto=Xb:=by simp [AV.isSto]
 refine ⟨v,lim',fun i k=>if i=1 then r' k else Xc,rfl,by rw [hany];exact hs,rfl,fun i=>?_,fun d k d' k' b h1 h2=>?_,fun i k b h=>?_,fun i h=>?_,fun i k e xs h=>?_,fun k e xs b h1 _ _=>(hnown k e xs h1).elim⟩
 ·rw [hat];by_cases h1:i=1
  ·subst h1;rw [if_pos rfl];show JC P w' lim' (fun k=>if 1=1 then r' k else Xc) rows';simpa using hr
  ·rw [if_neg h1];by_cases h2:i=2
   ·subst h2;rw [if_pos rfl];show ZS P w' lim' _ _ 2 res (if 2=2 then v else cargs.getD 2 undef);rw [if_pos rfl];exact (YT (k:=2) hp hv).2
   ·rw [if_neg h2];trivial
 ·obtain ⟨rfl,g1⟩:=hX _ _ _ h1;obtain ⟨rfl,g2⟩:=hX _ _ _ h2;exact ⟨rfl,hd _ _ _ g1 g2⟩
 ·obtain ⟨rfl,g1⟩:=hX _ _ _ h;exact hz _ _ g1
 ·rw [hat] at h;by_cases h1:i=1
  ·subst h1;exact ⟨rfl,(if_pos rfl).trans h0⟩
  ·rw [if_neg h1] at h;split at h
   ·cases res<;>first | (cases h;done) | cases hp
   ·cases h
 ·exfalso
  have:ZB [AV.dead,AV.store rows'] i = .dead∨ZB [AV.dead,AV.store rows'] i = .store rows':=by
   match i with
   | 0 => exact .inl rfl
   | 1 => exact .inr rfl
   | i + 2 => exact .inl rfl
  rcases this with e1 | e1<;>rw [e1] at h<;>cases k<;>cases h
def rk (kv:List AV):Int:=(Zl kv).getD 0
theorem Zqi {l:LL} (hn:(l.map Zl).Nodup) {kv:List AV} {k:Int} (hm:kv∈l) (hk:Zl kv=Xa k):l.find? (fun r=>Zl r == Xa k)=Xa kv:=by
 induction l with
 | nil => cases hm
 | cons x l ih =>
  have hn':Zl x∉l.map Zl∧(l.map Zl).Nodup:=Wa.1 hn;rcases Xq.1 hm with rfl | h
  ·simp [hk]
  ·have hx:(Zl x == Xa k)=Xe:=by
    rw [beq_eq_false_iff_ne];intro h2;exact hn'.1 (by rw [h2,← hk];exact UQ h)
   rw [List.find?_cons,hx];exact ih hn'.2 h
theorem Zjd {l:LL} (hn:(l.map Zl).Nodup) {p:Nat} {kv:List AV} {k:Int} (hp:l[p]? = Xa kv) (hk:Zl kv=Xa k):l.findIdx (fun r=>Zl r == Xa k)=p:=by
 induction l generalizing p with
 | nil => simp at hp
 | cons x l ih =>
  have hn':Zl x∉l.map Zl∧(l.map Zl).Nodup:=Wa.1 hn
  cases p with
  | zero =>
   simp only [XB,Option.some.injEq] at hp;subst hp;simp [List.findIdx_cons,hk]
  | succ p =>
   rw [XQ] at hp
   have hx:(Zl x == Xa k)=Xe:=by
    rw [beq_eq_false_iff_ne];intro h2;exact hn'.1 (by rw [h2,← hk];exact UQ (Xm hp))
   rw [List.findIdx_cons,hx,cond_false,ih hn'.2 hp]
theorem ZsQ {l:LL} (hn:(l.map Zl).Nodup) {p q:Nat} {kv kv':List AV} {k:Int} (hp:l[p]? = Xa kv) (hq:l[q]? = Xa kv') (hk:Zl kv=Xa k) (hk':Zl kv'=Xa k):p=q:=by
 rw [← Zjd hn hp hk,← Zjd hn hq hk']
theorem Ztw {l:LL} {k:Int} {kv:List AV} (hm:kv∈l) (hk:Zl kv=Xa k):∃ kv',l[l.findIdx (fun r=>Zl r == Xa k)]? = Xa kv'∧Zl kv'=Xa k:=by
 have hlt:l.findIdx (fun r=>Zl r == Xa k) < l.length:=List.findIdx_lt_length_of_exists ⟨kv,hm,by simp [hk]⟩;have:=List.findIdx_getElem (p:=fun r=>Zl r == Xa k) (xs:=l) (w:=hlt);exact ⟨_,Xp hlt,by simpa using this⟩
def nkv (l:LL) (L:Nat) (k:Int):List AV:=[.val (.int .i64 k),.oref (L+3+2*l.findIdx (fun r=>Zl r == Xa k)) 0]
theorem ZhE {l:LL} (hn:(l.map Zl).Nodup) (hs:∀ kv∈l,∃ k q,kv = [.val (.int .i64 k),.oref q 0]) (L:Nat):JE L 0 l=(l.map rk).map (nkv l L):=by
 apply Wo;intro p;rw [Zd0,Xl,Xl]
 cases hp:l[p]? with
 | none => rfl
 | some kv =>
  obtain ⟨k,q,rfl⟩:=hs kv (Xm hp);have h1:=Zjd hn hp (k:=k) rfl;show Xa [AV.val (.int .i64 k),AV.oref (L+3+2*(0+p)) 0]=Xa [AV.val (.int .i64 k),AV.oref (L+3+2*l.findIdx (fun r=>Zl r == Xa k)) 0];rw [h1,XH]
def ZiL (N n:Nat) (B:Nat→Nat) (A:Nat→Option (Nat×Nat)) (d:Nat):Option (Nat×Nat×TypeId):=
 if d=0 then Xa (N,0,0) else if d=1 then Xa (N+1,1,71) else if (d-2) / 2 < n then (if (d-2) % 2=0 then Xa (B ((d-2) / 2),1,57) else (A ((d-2) / 2)).map fun x=>(x.1,x.2,3)) else Xc
theorem Zl9 {N n:Nat} {B:Nat→Nat} {A:Nat→Option (Nat×Nat)} {d b cap:Nat} {ty:TypeId} (h:ZiL N n B A d=Xa (b,cap,ty)):(d=0∧b=N)∨(d=1∧b=N+1)∨(2≤d∧(d-2) / 2 < n∧bl B A ((d-2) / 2) ((d-2) % 2 == 1)=Xa b):=by
 unfold ZiL at h;split at h
 ·cases h;exact .inl ⟨by assumption,rfl⟩
 split at h
 ·cases h;exact .inr (.inl ⟨by assumption,rfl⟩)
 split at h
 case isFalse=>cases h
 refine .inr (.inr ⟨by omega,by assumption,?_⟩);split at h
 ·rename_i h2
  cases h
  unfold bl;rw [h2];rfl
 ·rename_i h2;have h3:(d-2) % 2=1:=by omega
  unfold bl;rw [h3]
  cases hA:A ((d-2) / 2) with
  | none => rw [hA] at h; cases h
  | some x => rw [hA] at h; cases h; rfl
theorem ZnI {N n:Nat} {B:Nat→Nat} {A:Nat→Option (Nat×Nat)} {p:Nat} (h:p < n):ZiL N n B A (2+2*p)=Xa (B p,1,57):=by
 unfold ZiL;rw [if_neg (by omega),if_neg (by omega),show (2+2*p-2) / 2=p by omega,show (2+2*p-2) % 2=0 by omega,if_pos h,if_pos rfl]
theorem Zqq {N n:Nat} {B:Nat→Nat} {A:Nat→Option (Nat×Nat)} {p:Nat} (h:p < n):ZiL N n B A (3+2*p)=(A p).map fun x=>(x.1,x.2,3):=by
 unfold ZiL;rw [if_neg (by omega),if_neg (by omega),show (3+2*p-2) / 2=p by omega,show (3+2*p-2) % 2=1 by omega,if_pos h,if_neg (by omega)]
theorem ZnU {N n:Nat} {B:Nat→Nat} {A:Nat→Option (Nat×Nat)} {d:Nat} (h:2+2*n≤d):ZiL N n B A d=Xc:=by
 unfold ZiL;rw [if_neg (by omega),if_neg (by omega),if_neg (by omega)]
set_option maxHeartbeats 1000000 in
theorem ZjX {w w':World} {lim:Lm} {Xd:Nat→Option Nat} {rows kvs0:LL} {es eo:Array MapEntry} {clock ck:Nat} {f:MapEntry→PV} {B:Nat→Nat} {A:Nat→Option (Nat×Nat)} {last:Int} (h:JC Try.prog w lim Xd rows) (hB:Below w.heap.size w w') (hz:∀ k b,Xd k=Xa b→b < w.heap.size)
  (hd:∀ k k' b,Xd k=Xa b→Xd k'=Xa b→k=k') (hK1:∀ kv∈kvs0,∃ k j,kv = [.val (.int .i64 k),.oref (j+1) 0]∧Zg7 rows (ZG rows (j+1))=Xb) (hn:(kvs0.map Zl).Nodup) (hs:Stamped es clock) (hkeys:(es.toList.map VU).Perm (kvs0.map rk))
  (hke:∀ e∈es.toList,e.key = .int .i64 (VU e)) (hf:∀ e∈es.toList,∀ kv∈kvs0,Zl kv=Xa (VU e)→f e=Zdq rows (ZG rows (kvJ kv))) (hM:ZmU (w.heap.size+3) es f w' (fun _=>Xb) eo B A) (ho1:w'.heap[w.heap.size]? = Xa (.map eo ck)) (ho2:Stamped eo ck)
  (hh:w'.heap[w.heap.size+1]? = Xa (.cells #[.map (Xa w.heap.size),.int .i64 last] 71 (0,0))) (hsz:w.heap.size+3≤w'.heap.size) (S:Nat→Prop) :
  ∃ (lim':Lm) (r':Nat→Option Nat),K7 w lim w' lim' S Xb∧JC Try.prog w' lim' r' (rows++(ZD (JE rows.length 0 kvs0)::[.omap (rows.length+1),.val (.int .i64 last)]::Z4 rows rows.length 0 kvs0))∧(∀ k k' b,r' k=Xa b→r' k'=Xa b→k=k')∧
   (∀ k b,r' k=Xa b→b < w'.heap.size∧((∃ k,Xd k=Xa b)∨w.heap.size≤b))∧r' 0=Xd 0∧lim'.t (rows.length+2)=Xa (w.heap.size+1,1,71):=by
 -- the entry of each place
 have hent:∃ ent:Nat→MapEntry,∀ p,∀ kv,kvs0[p]? = Xa kv→ent p∈es.toList∧Zl kv=Xa (VU (ent p)):=by
  refine Classical.axiomOfChoice (r:=fun p e=>∀ kv,kvs0[p]? = Xa kv→e∈es.toList∧Zl kv=Xa (VU e)) fun p=>?_
  cases hp:kvs0[p]? with
  | none => exact ⟨⟨undef, undef, 0⟩, fun kv h => by cases h⟩
  | some kv =>
   obtain ⟨k,j,rfl,_⟩:=hK1 kv (Xm hp);have h1:k∈es.toList.map VU:=hkeys.mem_iff.2 (Xj.2 ⟨_,Xm hp,rfl⟩);obtain ⟨e,he,hek⟩:=Xj.1 h1;exact ⟨e,fun kv' h=>by cases h;exact ⟨he,by rw [hek];rfl⟩⟩
 obtain ⟨ent,hent⟩:=hent;have hnd:=((stamped_iff es clock).1 hs).2.1;have hpw:=((stamped_iff es clock).1 hs).2.2;generalize hn0:kvs0.length=n
 have hentp:∀ p,p < n→∃ kv,kvs0[p]? = Xa kv∧ent p∈es.toList∧Zl kv=Xa (VU (ent p)):=fun p hp=>by
  have h1:kvs0[p]? = Xa (kvs0[p]'(by omega)):=Xp _;exact ⟨_,h1,(hent p _ h1).1,(hent p _ h1).2⟩
 have hinj:∀ p q,p < n→q < n→(ent p).born=(ent q).born→p=q:=fun p q hp hq hb=>by
  obtain ⟨kv,h1,h2,h3⟩:=hentp p hp;obtain ⟨kv',h4,h5,h6⟩:=hentp q hq;rw [born_inj hnd h2 h5 hb] at h3;exact ZsQ hn h1 h4 h3 h6
 let B':Nat→Nat:=fun p=>B (ent p).born
 let A':Nat→Option (Nat×Nat):=fun p=>A (ent p).born
 have hbl:∀ p i,bl B' A' p i=bl B A (ent p).born i:=fun p i=>rfl
 let T:Nat→Option (Nat×Nat×TypeId):=fun j=>if j≤rows.length then lim.t j else ZiL w.heap.size n B' A' (j-rows.length-1)
 let lim':Lm:=⟨fun b=>if b < w.heap.size then lim b else 0,T⟩
 let r':Nat→Option Nat:=fun k=>if k≤rows.length then Xd k else (ZiL w.heap.size n B' A' (k-rows.length-1)).map (·.1)
 have hnew:∀ {d b:Nat},(ZiL w.heap.size n B' A' d).map (·.1)=Xa b→(d=0∧b=w.heap.size)∨(d=1∧b=w.heap.size+1)∨(2≤d∧(d-2) / 2 < n∧bl B A (ent ((d-2) / 2)).born ((d-2) % 2 == 1)=Xa b∧w.heap.size+3≤b∧b < w'.heap.size):=fun {d b} hh=>by
  cases ht:ZiL w.heap.size n B' A' d with
  | none => rw [ht] at hh; cases hh
  | some x =>
   obtain ⟨b',cap,ty⟩:=x;rw [ht] at hh
   cases hh
   rcases Zl9 ht with h1 | h1 | ⟨h1,h2,h3⟩
   ·exact .inl h1
   ·exact .inr (.inl h1)
   ·obtain ⟨kv,h4,h5,h6⟩:=hentp _ h2;have:=hM.rng _ h5 rfl _ _ h3;exact .inr (.inr ⟨h1,h2,h3,this.1,this.2⟩)
 have hr'new:∀ k b,¬ k≤rows.length→r' k=Xa b→(ZiL w.heap.size n B' A' (k-rows.length-1)).map (·.1)=Xa b:=fun k b hk hb=>by
  have:r' k=(ZiL w.heap.size n B' A' (k-rows.length-1)).map (·.1):=if_neg hk;rw [← this];exact hb
 have hr'old:∀ k b,k≤rows.length→r' k=Xa b→Xd k=Xa b:=fun k b hk hb=>by
  have:r' k=Xd k:=if_pos hk;rw [← this];exact hb
 have hext:Ext w lim w' lim':=⟨fun b hb=>⟨by show lim b≤if b < w.heap.size then lim b else 0;rw [if_pos hb];exact Xy _,fun o u _ hc=>by unfold World.cell? at hc ⊢; rw [hB.block b hb];exact hc⟩,fun j p hp=>by
  by_cases hj:j≤rows.length
  ·show T j=Xa p;exact (if_pos hj).trans hp
  ·rw [h.1 j (by omega)] at hp
   cases hp⟩
 have hkept:∀ b,b < w.heap.size→Zha w lim w' lim' b:=fun b hb=>⟨hB.block b hb,if_pos hb⟩;have hl0:∀ b,w.heap.size≤b→lim' b=0:=fun b hb=>if_neg (by omega)
 have hTp:∀ p,p < n→lim'.t (rows.length+3+2*p)=Xa (B' p,1,57):=fun p hp=>by
  show T _=_;refine (if_neg (by omega)).trans ?_;rw [show rows.length+3+2*p-rows.length-1=2+2*p by omega];exact ZnI hp
 have hTa:∀ p,p < n→lim'.t (rows.length+4+2*p)=(A' p).map fun x=>(x.1,x.2,3):=fun p hp=>by
  show T _=_;refine (if_neg (by omega)).trans ?_;rw [show rows.length+4+2*p-rows.length-1=3+2*p by omega];exact Zqq hp
 have hrT:∀ k b cap ty,¬ k≤rows.length→lim'.t k=Xa (b,cap,ty)→r' k=Xa b:=fun k b cap ty hk ht=>by
  have h1:T k=ZiL w.heap.size n B' A' (k-rows.length-1):=if_neg hk;have h2:ZiL w.heap.size n B' A' (k-rows.length-1)=Xa (b,cap,ty):=h1.symm.trans ht;refine (if_neg hk).trans ?_;rw [h2];rfl
 have hhd:lim'.t (rows.length+2)=Xa (w.heap.size+1,1,71):=by
  show T _=_;refine (if_neg (by omega)).trans ?_;rw [show rows.length+2-rows.length-1=1 by omega];rfl
 have hmp:lim'.t (rows.length+1)=Xa (w.heap.size,0,0):=by
  show T _=_;refine (if_neg (by omega)).trans ?_;rw [show rows.length+1-rows.length-1=0 by omega];rfl
 refine ⟨lim',r',⟨hB.os,hB.tape,hB.output,hB.size,fun a ha=>hB.frozen ha,fun b hb _=>hkept b hb,hext,fun hf=>by cases hf⟩,⟨fun j hj=>?_,(if_pos (X5 _)).trans h.2.1,fun j row hr=>?_⟩,fun k k' b hk hk'=>?_,fun k b hk=>?_,if_pos (X5 _),hhd⟩
 ·simp only [List.length_append,XA,VL,hn0] at hj;refine (if_neg (by omega)).trans (ZnU (by omega))
 ·by_cases hj:j < rows.length
  ·rw [List.getElem?_append_left hj] at hr;rcases h.2.2 j row hr with h0 | ⟨b,cap,ty,h1,h2,h3⟩
   ·exact .inl h0
   ·exact .inr ⟨b,cap,ty,(if_pos (by omega)).trans h1,(if_pos (by omega)).trans h2,h3.mono hext (hkept b (hz _ _ h2))⟩
  ·obtain ⟨d,rfl⟩:∃ d,j=rows.length+d:=⟨j-rows.length,by omega⟩;rw [List.getElem?_append_right (by omega),Nat.add_sub_cancel_left] at hr
   match d,hr with
   | 0, hr =>
    rw [XB] at hr
    cases hr
    have hs1:∀ kv∈kvs0,∃ k q,kv = [.val (.int .i64 k),.oref q 0]:=fun kv hkv=>by obtain ⟨k,j,h1,_⟩:=hK1 kv hkv;exact ⟨k,j+1,h1⟩
    have hkeo:∀ x∈eo.toList,x.key = .int .i64 (VU x):=fun x hx=>by
     obtain ⟨z,hz⟩:=ZiH hM (fun e he=>⟨_,hke e he⟩) x hx;rw [hz];simp [VU,hz]
    have hpm1:(eo.toList.map VU).Perm (kvs0.map rk):=by
     refine List.Perm.trans ?_ hkeys;have h1:=hM.perm.map (fun x:Value×Value=>match x.1 with | .int _ z=>z | _=>(0:Int));rw [Uu.2 fun _ _=>rfl,Wf,Wf] at h1;exact h1
    refine .inr ⟨w.heap.size,0,0,hmp,hrT _ _ _ _ (by omega) hmp,hl0 _ (Xy _),.inr ⟨eo,ck,_,(eo.toList.map VU).map (nkv kvs0 rows.length),ho1,rfl,?_,by simp,ho2,fun i en kv he hkv=>?_⟩⟩
    ·rw [ZhE hn hs1];exact hpm1.map _
    ·have hem:en∈eo.toList:=Xm (by rw [Wg];exact he)
     have hkv2:kv=nkv kvs0 rows.length (VU en):=by
      rw [Xl,Xl,Wg,he] at hkv
      cases hkv
      rfl
     have h1:=hM.perm.mem_iff.1 (UQ hem);obtain ⟨e,hee,heq⟩:=Xj.1 h1;have hes:=(We.1 hee).1;have hk1:e.key=en.key:=congrArg Prod.fst heq;have hv1:Value.pointer (Xa ⟨B e.born,0,Xc⟩)=en.val:=congrArg Prod.snd heq;have hkz:VU e=VU en:=by simp [VU,hk1]
     have h2:VU e∈kvs0.map rk:=hkeys.mem_iff.1 (UQ hes);obtain ⟨kv',hkv',hrk⟩:=Xj.1 h2;obtain ⟨k',q',rfl⟩:=hs1 kv' hkv';have hrk:k'=VU e:=hrk;obtain ⟨kv2,g1,g2⟩:=Ztw (k:=VU en) hkv' (by show Xa k'=_;rw [hrk,hkz]);generalize hp:kvs0.findIdx (fun r=>Zl r == Xa (VU en))=p at g1;have hpn:p < n:=by have:=(Xk.1 g1).1;omega
     obtain ⟨m1,m2⟩:=hent p _ g1
     have m3:ent p=e:=by
      refine entry_eq_of_key hpw m1 hes ?_;rw [hke _ m1,hke _ hes];rw [g2] at m2;rw [hkz,XT m2]
     refine ⟨VU en,rows.length+3+2*p,by rw [hkv2,nkv,hp],hkeo en hem,?_⟩;rw [← hv1];refine Rep.oref (by omega) (cap:=1) (ty:=57) ?_;rw [hTp p hpn];show Xa (B (ent p).born,1,57)=_;rw [m3]
   | 1, hr =>
    rw [XQ,XB] at hr
    cases hr
    refine .inr ⟨w.heap.size+1,1,71,hhd,hrT _ _ _ _ (by omega) hhd,hl0 _ (by omega),.inl ⟨_,by decide,hh,by rw [ZtR];rfl,Xy _,fun x hx=>?_,fun i x u hx hu=>?_⟩⟩
    ·simp only [Xq,List.not_mem_nil,or_false] at hx;rcases hx with rfl | rfl<;>rfl
    ·match i,hx,hu with
     | 0, hx, hu => cases hx; cases hu; exact .omap (Uq _) hmp
     | 1, hx, hu => cases hx; cases hu; exact .val rfl
     | i + 2, hx, _ => simp at hx
   | e + 2, hr =>
    rw [XQ,XQ] at hr;obtain ⟨p,hp⟩:∃ p,e=2*p∨e=2*p+1:=⟨e / 2,by omega⟩;have hat:=Zcn rows rows.length kvs0 0 p
    have hpn:p < n:=by
     have:=(Xk.1 hr).1;rw [VL] at this;omega
    obtain ⟨kv,g1,g2,g3⟩:=hentp p hpn;obtain ⟨k,jj,rfl,g4⟩:=hK1 kv (Xm g1);have hfe:=hf _ g2 _ (Xm g1) g3;have ho:=hM.out _ g2 rfl;rw [hfe] at ho;have ho:ZsD w' (B' p) (A' p) (Zdq rows (ZG rows (jj+1))):=ho;rw [g1,XH] at hat;obtain ⟨v3,hb3,hcase⟩:=ho
    have hB'lo:w.heap.size≤B' p:=by
     have:=hM.rng _ g2 rfl Xe _ rfl;show w.heap.size≤B (ent p).born;omega
    have hrow:=clone_row g4 (rows.length+4+2*p);rcases hp with rfl | rfl
    ·rw [hat.1] at hr;have hr:(Kb rows (rows.length+4+2*p) (ZG rows (jj+1))).1=row:=XT hr;have hname:rows.length+(2*p+2)+1=rows.length+3+2*p:=by omega
     rw [hname];refine .inr ⟨B' p,1,57,hTp p hpn,hrT _ _ _ _ (by omega) (hTp p hpn),?_⟩;rcases hrow with ⟨hz0,hr2⟩ | ⟨hz0,hr2⟩
     ·rw [hr2] at hr;subst hr;rcases hcase with ⟨_,_,a,rfl⟩ | ⟨_,_,_,_,_,_,hz1,_⟩
      ·exact ZkK hb3 (hl0 _ hB'lo) rfl .osl0
      ·rw [hz0] at hz1;exact absurd hz1 (by decide)
     ·rw [hr2] at hr;subst hr;rcases hcase with ⟨_,hz1,_⟩ | ⟨g,cap,cur,hA,rfl,m1,m2,m3,m4,m5,m6⟩
      ·rw [hz1] at hz0;exact absurd hz0 (by decide)
      ·exact ZkK hb3 (hl0 _ hB'lo) rfl (.osl (by omega) (by rw [hTa p hpn,hA];rfl) m3)
    ·rw [hat.2] at hr;have hr:(Kb rows (rows.length+4+2*p) (ZG rows (jj+1))).2=row:=XT hr;have hname:rows.length+(2*p+1+2)+1=rows.length+4+2*p:=by omega
     rw [hname];rcases hrow with ⟨hz0,hr2⟩ | ⟨hz0,hr2⟩
     ·rw [hr2] at hr;exact .inl hr.symm
     ·rw [hr2] at hr;subst hr;rcases hcase with ⟨_,hz1,_⟩ | ⟨g,cap,cur,hA,rfl,m1,m2,m3,m4,m5,m6⟩
      ·rw [hz1] at hz0;exact absurd hz0 (by decide)
      ·have ht:lim'.t (rows.length+4+2*p)=Xa (g,cap,3):=by rw [hTa p hpn,hA];rfl
       have hg:=hM.rng _ g2 rfl Xb g (by show (A (ent p).born).map (·.1)=Xa g;rw [show A (ent p).born=Xa (g,cap) from hA];rfl);exact .inr ⟨g,cap,3,ht,hrT _ _ _ _ (by omega) ht,Zrw m1 (hl0 _ (by omega)) m3 m4 m5 m6⟩
 ·by_cases h1:k≤rows.length<;>by_cases h2:k'≤rows.length
  ·exact hd k k' b (hr'old k b h1 hk) (hr'old k' b h2 hk')
  ·have g1:=hz _ _ (hr'old k b h1 hk);rcases hnew (hr'new k' b h2 hk') with ⟨_,g⟩ | ⟨_,g⟩ | ⟨_,_,_,g,_⟩ <;> omega
  ·have g1:=hz _ _ (hr'old k' b h2 hk');rcases hnew (hr'new k b h1 hk) with ⟨_,g⟩ | ⟨_,g⟩ | ⟨_,_,_,g,_⟩ <;> omega
  ·rcases hnew (hr'new k b h1 hk) with ⟨g1,g2⟩ | ⟨g1,g2⟩ | ⟨g1,g2,g3,g4,g5⟩ <;> rcases hnew (hr'new k' b h2 hk') with ⟨l1,l2⟩ | ⟨l1,l2⟩ | ⟨l1,l2,l3,l4,l5⟩ <;> first | omega | skip;obtain ⟨_,_,m1,_⟩:=hentp _ g2;obtain ⟨_,_,m2,_⟩:=hentp _ l2;obtain ⟨n1,n2⟩:=hM.dist _ m1 rfl _ m2 rfl _ _ _ g3 l3;have:=hinj _ _ g2 l2 n1
   have hpar:(k-rows.length-1-2) % 2=(k'-rows.length-1-2) % 2:=by
    have a1:=Tf (k-rows.length-1-2);have a2:=Tf (k'-rows.length-1-2);rcases a1 with a1 | a1<;>rcases a2 with a2 | a2<;>rw [a1,a2] at n2<;>first | (rw [a1,a2];done) | cases n2
   omega
 ·by_cases h1:k≤rows.length
  ·have g1:=hr'old k b h1 hk;have:=hz _ _ g1;exact ⟨by omega,.inl ⟨k,g1⟩⟩
  ·rcases hnew (hr'new k b h1 hk) with ⟨_,g⟩ | ⟨_,g⟩ | ⟨_,_,_,g,g'⟩ <;> exact ⟨by omega,.inr (by omega)⟩
set_option maxHeartbeats 1000000 in
theorem ZmA:Znv.Ok Try.prog 24:=by
 intro vs r hg;have hg:ZjO vs=Xa r:=hg;unfold ZjO at hg;split at hg
 case h_2=>cases hg
 rename_i c rows _;obtain ⟨r1,r2⟩:=r;show JN Try.prog 24 [Zd c,.store rows] (Zd r1) [.dead,.store r2];refine ⟨⟨_,Try.func24,by decide,rfl⟩,show (2:Nat) < ngN by decide,fun w lim X cargs hl hrel hd hs hX=>?_⟩;have hr0:ZS Try.prog w lim X (ZB [Zd c,.store rows]) 0 (Zd c) (cargs.getD 0 undef):=hrel 0;have hr1:JC Try.prog w lim (X 1) rows:=hrel 1;have hrep:Rep w lim (Zd c) (cargs.getD 0 undef):=K2 (Q:=fun z=>ZS Try.prog w lim X (ZB [Zd c,.store rows]) 0 z (cargs.getD 0 undef)→Rep w lim z (cargs.getD 0 undef)) _ (fun _ _ h=>h) (fun _ _ _ h=>h) (fun _ h=>h) (fun _ _ h=>h) hr0;unfold Zgq at hg;split at hg
 case h_2=>cases hg
 rename_i jm hce;split at hg
 case h_2=>cases hg
 rename_i jq last hrow;obtain ⟨⟨hmap,hlen,hall⟩,hg2⟩:=ZbH hg;have hg3:(([[.oref (rows.length+2) 0]],rows++(ZD (JE rows.length 0 (J5 (ZG rows (jq+1))))::[.omap (rows.length+1),.val (.int .i64 last)]::Z4 rows rows.length 0 (J5 (ZG rows (jq+1))))):LL×LL)=(r1,r2):=XT hg2;have e1:=congrArg Prod.fst hg3;have e2:=congrArg Prod.snd hg3;dsimp only at e1 e2;subst e1;subst e2;rw [hce] at hrep;obtain ⟨b0,cap0,ty0,hlB,hval⟩:=Kd hrep;obtain ⟨b0',cap0',arr0,t0,g1,g2,g4,g5,g0,g6,g7,g8,g9⟩:=Ki hr1 (j:=jm) (by rw [hrow];rfl);rw [g2] at hlB;obtain ⟨rfl,rfl,rfl⟩:b0'=b0∧cap0'=cap0∧t0=ty0:=by cases hlB;exact ⟨rfl,rfl,rfl⟩
 rw [hrow] at g7 g9;have hsz2:2≤arr0.size:=g7;have hu0:arr0[0]? = Xa arr0[0]:=XV (by omega);have hu1:arr0[1]? = Xa arr0[1]:=XV (by omega);obtain ⟨bq,capq,tyq,m1,m2⟩:=Zaa (g9 0 (.omap (jq+1)) _ rfl hu0);have ha0:arr0[0]? = Xa (.map (Xa bq)):=by rw [hu0,m2]
 have ha1:arr0[1]? = Xa (.int .i64 last):=by rw [hu1,YU (g9 1 _ _ rfl hu1)]
 -- the map
 have hq:rows[jq]? = Xa (ZG rows (jq+1)):=by
  simp only [ZG] at hmap ⊢
  cases hr:rows[jq]? with
  | none => rw [hr] at hmap; cases hmap
  | some row => rfl
 obtain ⟨es,clock,kvs,n1,n2,n3,n4,hpm⟩:∃ (es:Array MapEntry) (clock:Nat) (kvs1:List (List AV)),w.heap[bq]? = Xa (.map es clock)∧es.size=kvs1.length∧MapKept.Stamped es clock∧
   (∀ (i:Nat) (en:MapEntry) (kv:List AV),es[i]? = Xa en→kvs1[i]? = Xa kv→∃ (k:Int) (q:Nat),kv = [.val (.int .i64 k),.oref q 0]∧en.key = .int .i64 k∧Rep w lim (.oref q 0) en.val)∧kvs1.Perm (J5 (ZG rows (jq+1))):=by
  generalize ZG rows (jq+1)=row at hq hmap;rcases hr1.2.2 jq row hq with rfl | ⟨b1,cap1,t1,z1,z2,z3,z4⟩
  ·cases hmap
  ·rw [m1] at z1
   cases z1
   rcases z4 with ⟨arr,_,_,_,_,z5,_⟩ | ⟨es,clock,kvs0,kvs,z5,rfl,zp,z6,z7,z8⟩
   ·unfold JR at hmap;split at hmap
    ·have:=z5 .dead (by simp)
     cases this
    ·cases hmap
   ·exact ⟨es,clock,kvs,z5,z6,z7,z8,zp⟩
 generalize hkv0:J5 (ZG rows (jq+1))=kvs0 at hall hlen hpm ⊢
 have hK1:∀ kv∈kvs0,∃ k j,kv = [.val (.int .i64 k),.oref (j+1) 0]∧Zg7 rows (ZG rows (j+1))=Xb:=fun kv hkv=>by
  have:=List.all_eq_true.1 hall kv hkv;unfold kvB at this;split at this
  ·exact ⟨_,_,rfl,this⟩
  ·cases this
 have hat:∀ e∈es.toList,∃ (k:Int) (q:Nat),[AV.val (.int .i64 k),AV.oref q 0]∈kvs0∧e.key = .int .i64 k∧Rep w lim (.oref q 0) e.val:=fun e he=>by
  obtain ⟨i,hi,rfl⟩:=List.mem_iff_getElem.1 he;have hi':i < es.size:=by simpa using hi
  obtain ⟨k,q,h2,h3,h4⟩:=n4 i es[i] (kvs[i]'(by omega)) (XV hi') (Xp _);have h5:=hpm.mem_iff.1 (List.getElem_mem (l:=kvs) (n:=i) (by omega));rw [h2] at h5;have:es.toList[i]=es[i]:=by simp
  exact ⟨k,q,h5,by rw [this];exact h3,by rw [this];exact h4⟩
 have hke:∀ e∈es.toList,e.key = .int .i64 (VU e):=fun e he=>by
  obtain ⟨k,q,_,h3,_⟩:=hat e he;rw [h3];simp [VU,h3]
 have hkeysE:kvs.filterMap Zl=es.toList.map VU:=ZiT es.toList kvs (by simpa using n2) fun i en row g1 g2=>by
  obtain ⟨k,q,y1,y2,_⟩:=n4 i en row (by simpa using g1) g2;exact ⟨k,q,y1,y2⟩
 have hfm:∀ l:LL,(∀ kv∈l,∃ (k:Int) (j:Nat),kv = [.val (.int .i64 k),.oref (j+1) 0]∧Zg7 rows (ZG rows (j+1))=Xb)→l.filterMap Zl=l.map rk∧l.map Zl=(l.map rk).map Xa:=fun l hl=>by
  induction l with
  | nil => exact ⟨rfl, rfl⟩
  | cons kv l ih =>
   obtain ⟨k,j,rfl,_⟩:=hl kv (.head _);obtain ⟨i1,i2⟩:=ih fun x hx=>hl x (.tail _ hx);rw [Th (f:=Zl) (b:=k) rfl,i1,Xh,Xh,Xh,i2];exact ⟨rfl,rfl⟩
 have hkeys:(es.toList.map VU).Perm (kvs0.map rk):=by
  rw [← hkeysE,← (hfm kvs0 hK1).1];exact hpm.filterMap _
 have hpw:=((MapKept.stamped_iff es clock).1 n3).2.2
 have hnk:(es.toList.map VU).Nodup:=by
  rw [U1,Uy];exact hpw.imp_of_mem fun {x y} hx hy hxy hzz=>hxy (by rw [hke x hx,hke y hy,hzz])
 have hn:(kvs0.map Zl).Nodup:=by
  rw [(hfm kvs0 hK1).2,U1,Uy];exact (U1.1 (hkeys.nodup_iff.1 hnk)).imp fun h1 h2=>h1 (XT h2)
 let f:MapEntry→PV:=fun e=>match kvs0.find? (fun r=>Zl r == Xa (VU e)) with | some kv=>Zdq rows (ZG rows (kvJ kv)) | none=>Zdq rows []
 have hf:∀ e,∀ kv∈kvs0,Zl kv=Xa (VU e)→f e=Zdq rows (ZG rows (kvJ kv)):=fun e kv hkv hk=>by
  show (match kvs0.find? (fun r=>Zl r == Xa (VU e)) with | some kv=>Zdq rows (ZG rows (kvJ kv)) | none=>Zdq rows [])=_;rw [Zqi hn hkv hk]
 have hp:∀ e∈es.toList,PIn w e.val (f e):=fun e he=>by
  obtain ⟨k,q,h1,h2,h3⟩:=hat e he;obtain ⟨k',j,h4,h5⟩:=hK1 _ h1
  cases h4
  rw [hf e _ h1 (by show Xa k=_;simp [VU,h2])];exact Zuy hr1 h5 h3
 rw [ZfX hl (JD c) hval (by intro h;cases h)];refine (Zs2 w b0' bq last es clock f arr0 _ g4 ha0 ha1 n1 n3 (fun e he=>⟨_,hke e he⟩) hp).mono ?_;rintro e' w' ⟨rfl,hB,hsz,hh,eo,ck,B,A,ho1,ho2,hM⟩;obtain ⟨lim',r',k1,k2,k3,k4,k5,k6⟩:=ZjX hr1 hB (fun k b hb=>hs _ _ _ hb) (fun k k' b h1 h2=>(hd _ _ _ _ _ h1 h2).2) hK1 hn n3 hkeys hke (fun e _=>hf e) hM ho1 ho2 hh hsz (fun b=>∃ i k,X i k=Xa b);refine Zs0 (JD c) k1 k2 k3 (fun k b hb=>⟨(k4 k b hb).1,(k4 k b hb).2.imp (fun ⟨k,hk⟩=>⟨1,k,hk⟩) id⟩) k5 ?_ rfl;exact Rep.oref (Uq _) k6
end Go.Proofs.Ytpjnmgjphfnmmaa
