import Derived.Test.YtpjnmgjphfnmmaaM5
import Derived.Test.YtpjnmgjphfnmmaaFT
open Option renaming some→Xa
open Bool renaming true→Xb,false→Xc
open List renaming mem_map→Xj,getElem?_map→Xl,mem_cons→Xp,find?_some→X4,mem_of_find?_eq_some→Wa,mem_filter→Wl
open Int renaming toNat_natCast→Ws
set_option linter.unusedVariables false
set_option linter.unusedSimpArgs false
set_option linter.defProp false
namespace Go.W
section
open Go Go.AM Go.Proofs.Ytpjnmgjphfnmmaa
set_option maxRecDepth 100000
variable {rows:LL} {F:Ym}
structure ZrW where
 k:Int
 a:Int
 b:Int
 c:Int
 raw:Bool
 nm:ByteArray
def stepc (s:ZrW):List AV:=[I s.k,I s.a,I s.b,I s.c,B s.raw,.val (.string s.nm)]
theorem ZmB {γ:Type} {l:List ZrW} {i:Nat} {s:ZrW} (h:l[i]? = Xa s) (k:Int×Int×Int×Int×Bool×ByteArray→Option γ):Zk (l.map stepc) (i:Int) [.int .i64,.int .i64,.int .i64,.int .i64,.bool,.str] k=k (s.k,s.a,s.b,s.c,s.raw,s.nm):=
 YF (l:=l.map stepc) (sh:=[.int .i64,.int .i64,.int .i64,.int .i64,.bool,.str]) (cs:=stepc s) (r:=(s.k,s.a,s.b,s.c,s.raw,s.nm)) k (by omega) (by rw [Ws,Xl,h];rfl) rfl
def v7 (p:Pr):Int×Int×ByteArray×LL×Bool×Int×Bool:=(p.id,p.parent,p.name,ints p.cores,p.ended,p.status,p.waiting)
theorem YI {γ:Type} {l:List Pr} {i:Nat} {p:Pr} (h:l[i]? = Xa p) (k:Int×Int×ByteArray×LL×Bool×Int×Bool→Option γ):Zk (l.map KO) (i:Int) [.int .i64,.int .i64,.str,.slice 1,.bool,.int .i64,.bool] k=k (v7 p):=
 YF (l:=l.map KO) (sh:=[.int .i64,.int .i64,.str,.slice 1,.bool,.int .i64,.bool]) (cs:=KO p) (r:=v7 p) k (by omega) (by rw [Ws,Xl,h];rfl) rfl
def at8 (o:Option Pr):Int×Int×ByteArray×LL×Bool×Int×Bool×Bool:=match o with
 | none => (0, 0, ⟨#[]⟩, [], Xc, 0, Xc, Xc)
 | some p => (p.id, p.parent, p.name, ints p.cores, p.ended, p.status, p.waiting, Xb)
theorem ZkJ (l:List Pr) (hl:l.length≤1000) (id:Int):∀ (ks pre:List Pr) (q:Nat),l=pre++ks→ks.length < q→ZpP q (l.map KO) id 0 0 ⟨#[]⟩ [] Xc 0 Xc (pre.length:Int)=Xa (at8 (ks.find? fun p=>decide (p.id=id)))
 | [], pre, q, hs, hq => by
  obtain ⟨q',rfl⟩:∃ q',q=q'+1:=⟨q-1,by simp at hq;omega⟩
  rw [List.append_nil] at hs
  have hlen:((l.map KO).length:Int)=(l.length:Int):=by simp
  rw [ZkK,hlen,hs,if_neg (by simp [cop])]
  rfl
 | p :: ks, pre, q, hs, hq => by
  obtain ⟨q',rfl⟩:∃ q',q=q'+1:=⟨q-1,by simp at hq;omega⟩
  have hz:l[pre.length]? = Xa p:=by rw [hs];simp
  have hi:=(List.getElem?_eq_some_iff.1 hz).1
  have hlen:((l.map KO).length:Int)=(l.length:Int):=by simp
  have hl1:((pre++[p]).length:Int)=((pre.length+1:Nat):Int):=by simp
  rw [ZkK,hlen,if_pos (by simp [cop];omega),YI hz,YI hz,ZaQ (by omega)]
  by_cases hp:p.id=id
  ·rw [if_pos (by simp [cop,v7,hp]),List.find?_cons_of_pos (by simp [hp])]
   rfl
  ·have ih:=ZkJ l hl id ks (pre++[p]) q' (by rw [hs];simp) (by simp at hq;omega)
   rw [hl1] at ih
   rw [if_neg (by simp [cop,v7,hp]),List.find?_cons_of_neg (by simp [hp]),ih]
theorem s20 (l:List Pr) (hl:l.length≤1000) (id:Int):g20 (l.map KO) id=Xa (at8 (l.find? fun p=>decide (p.id=id))):=by
 rw [Ztw]
 exact ZkJ l hl id l [] Jr rfl (by unfold Jr;omega)
theorem ZuZ (es:List PE) (id:Int):(es.map PE.p).find? (fun p=>decide (p.id=id))=(es.find? fun e=>decide (e.p.id=id)).map PE.p:=by
 rw [List.find?_map]
 rfl
def RC (es:List PE):Prop:=∀ e∈es,e.p.ended=Xc→e.p.cores≠[]
theorem Zmr {K:List Int} {st:Int} {es es':List PE} (h:RC es) (hf:Fra K st es es'):RC es':=fun e he hen=>by
 obtain ⟨a,ha,_,h1⟩:=hf e he
 rcases h1 with ⟨h2,_,h3⟩ | ⟨_,_,h2,_⟩
 ·rw [h3];exact h a ha (by rw [← h2];exact hen)
 ·rw [h2] at hen;cases hen
theorem ZnQ {es:List PE} {last core:Int} (ho:LOk es last):RC (Zi (-2) (es.map (Yh core)) (Zdd core es)).1:=fun e he hen=>by
 have hl:=Zaw ho core
 obtain ⟨a,ha,hid,h1⟩:=Kt (-2) (Zdd core es) _ hl e he
 rcases h1 with ⟨h2,_,h3⟩ | ⟨_,_,h2,_⟩
 ·intro hh
  obtain ⟨d,hd,rfl⟩:=Xj.1 ha
  have hb:d.p.id∈Zdd core es:=Xj.2 ⟨d,Wl.2 ⟨hd,by rw [h3] at hh;exact decide_eq_true hh⟩,rfl⟩
  have hr:=ZbV (-2) (Zdd core es) _ hl _ hb
  have hf:=Z7 (Vj (Zdd core es) _ hl (st:=-2)).srt he
  have hde:e.p.id=d.p.id:=hid.symm
  unfold J1 at hr
  rw [← hde,hf] at hr
  dsimp only at hr
  rw [hen] at hr
  simp at hr
 ·rw [h2] at hen;cases hen
theorem ZtD {es es':List PE} {last last':Int} (h:LOk es last) (hc:RC es) (s:Stp es last es' last'):RC es':=by
 cases s with
 | same => exact hc
 | spawn e' p parent core nm _ h1 h2 =>
  intro e he hen
  rcases List.mem_append.1 he with he | he
  ·exact hc e he hen
  ·rw [List.mem_singleton] at he
   rw [he,h2]
   simp
 | span k core L e h1 h2 h3 =>
  intro a ha hen
  obtain ⟨b,hb,rfl⟩:=Xj.1 ha
  split
  ·intro hh
   have:=ZaE (b.p.cores++[core])
   have h0:(srt (b.p.cores++[core])).length=0:=congrArg List.length hh
   simp at this
   omega
  ·rename_i hbk
   rw [if_neg hbk] at hen
   exact hc b hb hen
 | exit k st e h1 => exact Zmr hc (Zju h h1 st)
 | kill zs => exact Zmr hc (Kt (-1) zs es h)
 | wait k => exact Zmr (K := []) (st := 0) hc (ZkU es k)
 | depart core _ => exact ZnQ h
end
section
open Go Go.AM Go.Proofs.Ytpjnmgjphfnmmaa
set_option maxRecDepth 100000
variable {es:List PE} {last:Int}
structure TX (K:Int→Prop) (es:List PE):Prop where
 par:∀ e∈es,e.p.id≠1→∃ p∈es,p.p.id=e.p.parent∧(p.p.ended=Xb→p.p.id=1∨K p.p.id)
 fin:∀ e∈es,e.p.ended=Xb→e.p.cores = []∧e.p.waiting=Xc
 run:∀ e∈es,e.p.ended=Xc→e.p.status=0
 wt:∀ e∈es,e.p.waiting=Xb→(∃ c∈es,c.p.parent=e.p.id∧(c.p.ended=Xc∨K c.p.id))∧∀ c∈es,c.p.parent=e.p.id→c.p.ended=Xc∨K c.p.id
abbrev TP (es:List PE):Prop:=TX (fun _=>False) es
def Zev (b:Bool) (e:PE):PE:={ e with p:={ e.p with waiting:=b } }
def Ztd (e:PE):PE:={ e with p:={ e.p with parent:=1 } }
theorem Zf7 {k:Int} {f:Pr→Pr} {e':PE} : e'∈V4 k f es↔∃ e∈es,e'=if e.p.id=k then { e with p:=f e.p } else e:=by
 unfold V4
 rw [Xj]
 exact ⟨fun ⟨e,h1,h2⟩=>⟨e,h1,h2.symm⟩,fun ⟨e,h1,h2⟩=>⟨e,h1,h2.symm⟩⟩
theorem Wp {k:Int} {e':PE} : e'∈Vg k es↔e'∈es∧e'.p.id≠k:=by
 unfold Vg
 rw [Wl]
 simp
theorem Zf3 {par z:Int} {e':PE} : e'∈Vg z (V4 par (fun q=>{ q with waiting:=Xc }) es)↔∃ e∈es,e.p.id≠z∧e'=if e.p.id=par then Zev Xc e else e:=by
 rw [Wp,Zf7]
 constructor
 ·rintro ⟨⟨e,h1,h2⟩,h3⟩
  refine ⟨e,h1,?_,h2⟩
  rw [h2] at h3
  split at h3<;>exact h3
 ·rintro ⟨e,h1,h2,h3⟩
  refine ⟨⟨e,h1,h3⟩,?_⟩
  rw [h3]
  split<;>exact h2
theorem Zte {k st:Int} {e0:PE} (h:TP es) (ho:LOk es last) (hr:J1 es k=Xa e0) (hk:k≠1):TX (fun z=>z=k) (JP k (JD st) es):=by
 have mem:∀ {e'},e'∈JP k (JD st) es↔∃ e∈es,e'=if e.p.id=k then JD st e else e:=fun {e'}=>by
  unfold JP
  rw [Xj]
  exact ⟨fun ⟨e,h1,h2⟩=>⟨e,h1,h2.symm⟩,fun ⟨e,h1,h2⟩=>⟨e,h1,h2.symm⟩⟩
 have hid:∀ e:PE,(if e.p.id=k then JD st e else e).p.id=e.p.id:=fun e=>by split<;>rfl
 have hpa:∀ e:PE,(if e.p.id=k then JD st e else e).p.parent=e.p.parent:=fun e=>by split<;>rfl
 refine ⟨fun e' he' h1=>?_,fun e' he' hen=>?_,fun e' he' hen=>?_,fun e' he' hw=>?_⟩
 ·obtain ⟨e,he,rfl⟩:=mem.1 he'
  rw [hid] at h1
  obtain ⟨p,hp,h2,h3⟩:=h.par e he h1
  refine ⟨_,mem.2 ⟨p,hp,rfl⟩,by rw [hid,hpa,h2],fun hen=>?_⟩
  rw [hid]
  by_cases hpk:p.p.id=k
  ·exact .inr hpk
  ·rw [if_neg hpk] at hen
   exact (h3 hen).imp (fun a=>a) fun a=>a.elim
 ·obtain ⟨e,he,rfl⟩:=mem.1 he'
  by_cases hek:e.p.id=k
  ·rw [if_pos hek];exact ⟨rfl,rfl⟩
  ·rw [if_neg hek] at hen ⊢
   exact h.fin e he hen
 ·obtain ⟨e,he,rfl⟩:=mem.1 he'
  by_cases hek:e.p.id=k
  ·rw [if_pos hek] at hen;cases hen
  ·rw [if_neg hek] at hen ⊢
   exact h.run e he hen
 ·obtain ⟨e,he,rfl⟩:=mem.1 he'
  by_cases hek:e.p.id=k
  ·rw [if_pos hek] at hw;cases hw
  ·rw [if_neg hek] at hw ⊢
   obtain ⟨⟨c,hc,h1,h2⟩,h3⟩:=h.wt e he hw
   refine ⟨⟨_,mem.2 ⟨c,hc,rfl⟩,by rw [hpa,h1],?_⟩,fun c' hc' hcp=>?_⟩
   ·rw [hid]
    by_cases hck:c.p.id=k
    ·exact .inr hck
    ·rw [if_neg hck]
     exact .inl (h2.elim (fun a=>a) fun a=>a.elim)
   ·obtain ⟨d,hd,rfl⟩:=mem.1 hc'
    rw [hpa] at hcp
    rw [hid]
    by_cases hck:d.p.id=k
    ·exact .inr hck
    ·rw [if_neg hck]
     exact .inl ((h3 d hd hcp).elim (fun a=>a) fun a=>a.elim)
theorem Zr1 {st:Int} {e0:PE} (h:TP es) (ho:LOk es last) (hr:J1 es 1=Xa e0):TP (JP 1 (JD st) es):=by
 have mem:∀ {e'},e'∈JP 1 (JD st) es↔∃ e∈es,e'=if e.p.id=1 then JD st e else e:=fun {e'}=>by
  unfold JP
  rw [Xj]
  exact ⟨fun ⟨e,h1,h2⟩=>⟨e,h1,h2.symm⟩,fun ⟨e,h1,h2⟩=>⟨e,h1,h2.symm⟩⟩
 have hid:∀ e:PE,(if e.p.id=1 then JD st e else e).p.id=e.p.id:=fun e=>by split<;>rfl
 have hpa:∀ e:PE,(if e.p.id=1 then JD st e else e).p.parent=e.p.parent:=fun e=>by split<;>rfl
 refine ⟨fun e' he' h1=>?_,fun e' he' hen=>?_,fun e' he' hen=>?_,fun e' he' hw=>?_⟩
 ·obtain ⟨e,he,rfl⟩:=mem.1 he'
  rw [hid] at h1
  obtain ⟨p,hp,h2,h3⟩:=h.par e he h1
  refine ⟨_,mem.2 ⟨p,hp,rfl⟩,by rw [hid,hpa,h2],fun hen=>?_⟩
  rw [hid]
  by_cases hpk:p.p.id=1
  ·exact .inl hpk
  ·rw [if_neg hpk] at hen
   exact h3 hen
 ·obtain ⟨e,he,rfl⟩:=mem.1 he'
  by_cases hek:e.p.id=1
  ·rw [if_pos hek];exact ⟨rfl,rfl⟩
  ·rw [if_neg hek] at hen ⊢
   exact h.fin e he hen
 ·obtain ⟨e,he,rfl⟩:=mem.1 he'
  by_cases hek:e.p.id=1
  ·rw [if_pos hek] at hen;cases hen
  ·rw [if_neg hek] at hen ⊢
   exact h.run e he hen
 ·obtain ⟨e,he,rfl⟩:=mem.1 he'
  by_cases hek:e.p.id=1
  ·rw [if_pos hek] at hw;cases hw
  ·rw [if_neg hek] at hw ⊢
   have hre:=ho.rng e he
   have no1:∀ c∈es,c.p.parent=e.p.id→c.p.id≠1:=fun c hc hcp h1=>by
    have:=ho.par c hc
    omega
   obtain ⟨⟨c,hc,h1,h2⟩,h3⟩:=h.wt e he hw
   refine ⟨⟨_,mem.2 ⟨c,hc,rfl⟩,by rw [hpa,h1],?_⟩,fun c' hc' hcp=>?_⟩
   ·rw [if_neg (no1 c hc h1)]
    exact h2
   ·obtain ⟨d,hd,rfl⟩:=mem.1 hc'
    rw [hpa] at hcp
    rw [if_neg (no1 d hd hcp)]
    exact h3 d hd hcp
theorem ZrT {k z:Int} {c:PE} (h:TX (fun y=>y=k) es) (ho:LOk es last) (hk:1 < k) (hkd:∀ e∈es,e.p.id=k→e.p.ended=Xb) (hc:es.find? (fun e=>decide (e.p.id=z))=Xa c) (hcp:c.p.parent=k) :
  TX (fun y=>y=k) (ZC k es z).1∧∀ e'∈(ZC k es z).1,e'.p.parent=k→e'.p.id≠z:=by
 have hcm:=Wa hc
 have hcz:c.p.id=z:=by have:=X4 hc;simpa using this
 have hcpar:=ho.par c hcm
 have hz1:z≠1:=by omega
 have hzk:z≠k:=by omega
 obtain ⟨r0,hr0,hr1⟩:=ho.one
 have huz:∀ e∈es,e.p.id=z→e=c:=fun e he hez=>Zrn ho.srt he hcm (hez.trans hcz.symm)
 have hkw:∀ e∈es,e.p.id=k→e.p.waiting=Xc:=fun e he hek=>(h.fin e he (hkd e he hek)).2
 -- the witness of a waiting one is not z
 have hwz:∀ e∈es,e.p.waiting=Xb→∀ w∈es,w.p.parent=e.p.id→w.p.id≠z:=fun e he hw w hwm hwp hwz=>by
  have:w=c:=huz w hwm hwz
  subst this
  have:=hkw e he (by rw [← hwp,hcp])
  rw [hw] at this
  cases this
 have hid:∀ e:PE,(if e.p.id=z then Ztd e else e).p.id=e.p.id:=fun e=>by split<;>rfl
 have hen:∀ e:PE,(if e.p.id=z then Ztd e else e).p.ended=e.p.ended:=fun e=>by split<;>rfl
 have hcs:∀ e:PE,(if e.p.id=z then Ztd e else e).p.cores=e.p.cores:=fun e=>by split<;>rfl
 have hst:∀ e:PE,(if e.p.id=z then Ztd e else e).p.status=e.p.status:=fun e=>by split<;>rfl
 have hwt:∀ e:PE,(if e.p.id=z then Ztd e else e).p.waiting=e.p.waiting:=fun e=>by split<;>rfl
 have mem:∀ {e'},e'∈V4 z (fun q=>{ q with parent:=1 }) es↔∃ e∈es,e'=if e.p.id=z then Ztd e else e:=fun {e'}=>Zf7
 -- the new parents
 have moved:((c.p.ended=Xb→r0.p.waiting=Xc)→TX (fun y=>y=k) (V4 z (fun q=>{ q with parent:=1 }) es)):=fun hroot=>by
  refine ⟨fun e' he' h1=>?_,fun e' he' he1=>?_,fun e' he' he1=>?_,fun e' he' hw=>?_⟩
  ·obtain ⟨e,he,rfl⟩:=mem.1 he'
   rw [hid] at h1
   by_cases hez:e.p.id=z
   ·refine ⟨_,mem.2 ⟨r0,hr0,rfl⟩,?_,fun _=>.inl ?_⟩
    ·rw [hid,if_pos hez];exact hr1
    ·rw [hid];exact hr1
   ·obtain ⟨p,hp,h2,h3⟩:=h.par e he h1
    refine ⟨_,mem.2 ⟨p,hp,rfl⟩,?_,fun hh=>?_⟩
    ·rw [hid,if_neg hez,h2]
    ·rw [hid];exact h3 (by rw [← hen];exact hh)
  ·obtain ⟨e,he,rfl⟩:=mem.1 he'
   rw [hcs,hwt]
   exact h.fin e he (by rw [← hen];exact he1)
  ·obtain ⟨e,he,rfl⟩:=mem.1 he'
   rw [hst]
   exact h.run e he (by rw [← hen];exact he1)
  ·obtain ⟨e,he,rfl⟩:=mem.1 he'
   rw [hwt] at hw
   rw [hid]
   obtain ⟨⟨w,hwm,w1,w2⟩,w3⟩:=h.wt e he hw
   have hwn:=hwz e he hw w hwm w1
   refine ⟨⟨_,mem.2 ⟨w,hwm,rfl⟩,by rw [if_neg hwn];exact w1,by rw [hen,hid];exact w2⟩,fun d' hd' hdp=>?_⟩
   obtain ⟨d,hd,rfl⟩:=mem.1 hd'
   rw [hen,hid]
   by_cases hdz:d.p.id=z
   ·have:d=c:=huz d hd hdz
    subst this
    rw [if_pos hdz] at hdp
    have he1:e.p.id=1:=hdp.symm
    have:e=r0:=Zrn ho.srt he hr0 (he1.trans hr1.symm)
    subst this
    cases hde:d.p.ended with
    | false => exact .inl rfl
    | true =>
     have:=hroot hde
     rw [hw] at this
     cases this
   ·rw [if_neg hdz] at hdp
    exact w3 d hd hdp
 have movedk:∀ e'∈V4 z (fun q=>{ q with parent:=1 }) es,e'.p.parent=k→e'.p.id≠z:=fun e' he' hp=>by
  obtain ⟨e,he,rfl⟩:=mem.1 he'
  rw [hid]
  intro hez
  rw [if_pos hez] at hp
  have:(1:Int)=k:=hp
  omega
 unfold ZC
 rw [hc]
 dsimp only
 rw [if_pos hcp]
 by_cases hce:c.p.ended=Xb
 ·rw [if_pos hce]
  have hu:LOk (V4 z (fun q=>{ q with parent:=1 }) es) last:=ZbU ho (fun _=>rfl) fun a ha haz=>⟨by show (0:Int)≤1;decide,by show (1:Int) < a.p.id;omega⟩
  have hf1:(V4 z (fun q=>{ q with parent:=1 }) es).find? (fun e=>decide (e.p.id=1))=Xa r0:=by
   have hm0:r0∈V4 z (fun q=>{ q with parent:=1 }) es:=mem.2 ⟨r0,hr0,by rw [if_neg (by omega)]⟩
   have:=Z7 hu.srt hm0
   rw [hr1] at this
   exact this
  unfold J0
  rw [hf1]
  dsimp only
  by_cases hrw:r0.p.waiting=Xb
  ·rw [if_pos hrw]
   -- root is told
   have memt:∀ {e'},e'∈Vg c.p.id (V4 1 (fun q=>{ q with waiting:=Xc }) (V4 z (fun q=>{ q with parent:=1 }) es))↔∃ e∈es,e.p.id≠z∧e'=if e.p.id=1 then Zev Xc e else e:=fun {e'}=>by
    rw [Zf3,hcz]
    constructor
    ·rintro ⟨e,he,h1,h2⟩
     obtain ⟨a,ha,rfl⟩:=mem.1 he
     rw [hid] at h1
     rw [if_neg h1] at h2
     exact ⟨a,ha,h1,h2⟩
    ·rintro ⟨e,he,h1,h2⟩
     exact ⟨e,mem.2 ⟨e,he,by rw [if_neg h1]⟩,h1,h2⟩
   have tid:∀ e:PE,(if e.p.id=1 then Zev Xc e else e).p.id=e.p.id:=fun e=>by split<;>rfl
   have ten:∀ e:PE,(if e.p.id=1 then Zev Xc e else e).p.ended=e.p.ended:=fun e=>by split<;>rfl
   have tcs:∀ e:PE,(if e.p.id=1 then Zev Xc e else e).p.cores=e.p.cores:=fun e=>by split<;>rfl
   have tst:∀ e:PE,(if e.p.id=1 then Zev Xc e else e).p.status=e.p.status:=fun e=>by split<;>rfl
   have tpa:∀ e:PE,(if e.p.id=1 then Zev Xc e else e).p.parent=e.p.parent:=fun e=>by split<;>rfl
   have twt:∀ e:PE,(if e.p.id=1 then Zev Xc e else e).p.waiting=Xb→e.p.waiting=Xb∧e.p.id≠1:=fun e hh=>by
    by_cases h1:e.p.id=1
    ·rw [if_pos h1] at hh;cases hh
    ·rw [if_neg h1] at hh;exact ⟨hh,h1⟩
   refine ⟨⟨fun e' he' h1=>?_,fun e' he' he1=>?_,fun e' he' he1=>?_,fun e' he' hw=>?_⟩,fun e' he' hp=>?_⟩
   ·obtain ⟨e,he,hez,rfl⟩:=memt.1 he'
    rw [tid] at h1
    obtain ⟨p,hp,h2,h3⟩:=h.par e he h1
    have hpz:p.p.id≠z:=fun hpz=>by
     have:p=c:=huz p hp hpz
     subst this
     rcases h3 hce with h4 | h4
     ·omega
     ·exact hzk (hpz ▸ h4)
    refine ⟨_,memt.2 ⟨p,hp,hpz,rfl⟩,?_,fun hh=>?_⟩
    ·rw [tid,tpa,h2]
    ·rw [tid];exact h3 (by rw [← ten];exact hh)
   ·obtain ⟨e,he,hez,rfl⟩:=memt.1 he'
    rw [tcs]
    have:=h.fin e he (by rw [← ten];exact he1)
    refine ⟨this.1,?_⟩
    split
    ·rfl
    ·exact this.2
   ·obtain ⟨e,he,hez,rfl⟩:=memt.1 he'
    rw [tst]
    exact h.run e he (by rw [← ten];exact he1)
   ·obtain ⟨e,he,hez,rfl⟩:=memt.1 he'
    obtain ⟨hw1,hw2⟩:=twt e hw
    rw [tid]
    obtain ⟨⟨w,hwm,w1,w2⟩,w3⟩:=h.wt e he hw1
    refine ⟨⟨_,memt.2 ⟨w,hwm,hwz e he hw1 w hwm w1,rfl⟩,by rw [tpa];exact w1,by rw [ten,tid];exact w2⟩,fun d' hd' hdp=>?_⟩
    obtain ⟨d,hd,_,rfl⟩:=memt.1 hd'
    rw [tpa] at hdp
    rw [ten,tid]
    exact w3 d hd hdp
   ·obtain ⟨e,he,hez,rfl⟩:=memt.1 he'
    rw [tid]
    exact hez
  ·rw [if_neg hrw]
   exact ⟨moved fun _=>by simpa using hrw,movedk⟩
 ·rw [if_neg hce]
  exact ⟨moved fun hh=>absurd hh hce,movedk⟩
theorem ZqQ {k:Int} {es es':List PE} (hkd:∀ e∈es,e.p.id=k→e.p.ended=Xb) (h:Org es es'):∀ e∈es',e.p.id=k→e.p.ended=Xb:=fun e he hek=>by
 obtain ⟨a,ha,h1,h2⟩:=h e he
 exact h2 (hkd a ha (h1.trans hek))
theorem Zin {k:Int} (hk:1 < k):∀ (ks:List Int) (es:List PE),TX (fun y=>y=k) es→LOk es last→(∀ e∈es,e.p.id=k→e.p.ended=Xb)→(∀ e∈es,e.p.parent=k→e.p.id∈ks)→
  TX (fun y=>y=k) (ZI k es ks).1∧∀ e∈(ZI k es ks).1,e.p.parent≠k
 | [], es, h, _, _, hin => ⟨h, fun e he hp => by have := hin e he hp; cases this⟩
 | z :: ks, es, h, ho, hkd, hin => by
  have hkd':=ZqQ hkd (Zk6 es k z)
  have hpar:∀ e'∈(ZC k es z).1,e'.p.parent=k→∃ e∈es,e.p.id=e'.p.id∧e.p.parent=k:=by
   intro e' he' hp
   have hgen:∀ (fs:List PE) (par:Int) (c:Pr),∀ a'∈(J0 fs par c).1,∃ a∈fs,a.p.id=a'.p.id∧a.p.parent=a'.p.parent:=fun fs par c a' ha'=>by
    unfold J0 at ha'
    split at ha'
    ·split at ha'
     ·obtain ⟨a,ha,_,rfl⟩:=Zf3.1 ha'
      exact ⟨a,ha,by split<;>rfl,by split<;>rfl⟩
     ·exact ⟨a',ha',rfl,rfl⟩
    ·exact ⟨a',ha',rfl,rfl⟩
   have hupd:∀ a'∈V4 z (fun q=>{ q with parent:=1 }) es,a'.p.parent=k→∃ a∈es,a.p.id=a'.p.id∧a.p.parent=k:=fun a' ha' hap=>by
    obtain ⟨a,ha,rfl⟩:=Zf7.1 ha'
    by_cases haz:a.p.id=z
    ·rw [if_pos haz] at hap
     have:(1:Int)=k:=hap
     omega
    ·rw [if_neg haz] at hap ⊢
     exact ⟨a,ha,rfl,hap⟩
   unfold ZC at he'
   split at he'
   ·split at he'
    ·split at he'
     ·obtain ⟨a,ha,h1,h2⟩:=hgen _ _ _ e' he'
      obtain ⟨b,hb,h3,h4⟩:=hupd a ha (h2.trans hp)
      exact ⟨b,hb,h3.trans h1,h4⟩
     ·exact hupd e' he' hp
    ·exact ⟨e',he',rfl,hp⟩
   ·exact ⟨e',he',rfl,hp⟩
  by_cases hz:∃ c,es.find? (fun e=>decide (e.p.id=z))=Xa c∧c.p.parent=k
  ·obtain ⟨c,hc,hcp⟩:=hz
   obtain ⟨g1,g2⟩:=ZrT h ho hk hkd hc hcp
   refine Zin hk ks _ g1 (ZfD ho (by omega)) hkd' fun e' he' hp=>?_
   obtain ⟨e,he,h1,h2⟩:=hpar e' he' hp
   have:=hin e he h2
   rw [h1] at this
   rcases Xp.1 this with h3 | h3
   ·exact absurd h3 (g2 e' he' hp)
   ·exact h3
  ·have hst:ZC k es z=(es,[]):=by
    unfold ZC
    split
    ·rename_i c hc
     rw [if_neg (fun hp=>hz ⟨c,hc,hp⟩)]
    ·rfl
   have ih:=Zin hk ks es h ho hkd fun e he hp=>by
    rcases Xp.1 (hin e he hp) with h3 | h3
    ·have hf:=Z7 ho.srt he
     rw [h3] at hf
     exact absurd ⟨e,hf,hp⟩ hz
    ·exact h3
   simp only [ZI,hst]
   exact ih
theorem ZsV {k par:Int} {c:Pr} (h:TX (fun y=>y=k) es) (ho:LOk es last) (hk:1 < k) (hkd:∀ e∈es,e.p.id=k→e.p.ended=Xb) (hno:∀ e∈es,e.p.parent≠k) (hkp:∀ e∈es,e.p.id=k→e.p.parent=par) (hc:c.id=k):TP (J0 es par c).1:=by
 have stay:(∀ e∈es,e.p.id=par→e.p.waiting=Xc)→TP es:=fun hw=>by
  refine ⟨fun e he h1=>?_,h.fin,h.run,fun e he hew=>?_⟩
  ·obtain ⟨p,hp,h2,h3⟩:=h.par e he h1
   refine ⟨p,hp,h2,fun hh=>.inl ?_⟩
   rcases h3 hh with h4 | h4
   ·exact h4
   ·exact absurd (h2.symm.trans h4) (hno e he)
  ·have hep:∀ d∈es,d.p.parent=e.p.id→d.p.id≠k:=fun d hd hdp hdk=>by
    have h5:=hkp d hd hdk
    have:=hw e he (by rw [← hdp,h5])
    rw [hew] at this
    cases this
   obtain ⟨⟨w,hwm,w1,w2⟩,w3⟩:=h.wt e he hew
   exact ⟨⟨w,hwm,w1,.inl (w2.elim (fun a=>a) fun a=>absurd a (hep w hwm w1))⟩,fun d hd hdp=>.inl ((w3 d hd hdp).elim (fun a=>a) fun a=>absurd a (hep d hd hdp))⟩
 unfold J0
 split
 ·rename_i p hf
  have hpm:=Wa hf
  have hpi:p.p.id=par:=by have:=X4 hf;simpa using this
  split
  ·rw [hc]
   have memt:∀ {e'},e'∈Vg k (V4 par (fun q=>{ q with waiting:=Xc }) es)↔∃ e∈es,e.p.id≠k∧e'=if e.p.id=par then Zev Xc e else e:=fun {e'}=>Zf3
   have tid:∀ e:PE,(if e.p.id=par then Zev Xc e else e).p.id=e.p.id:=fun e=>by split<;>rfl
   have ten:∀ e:PE,(if e.p.id=par then Zev Xc e else e).p.ended=e.p.ended:=fun e=>by split<;>rfl
   have tcs:∀ e:PE,(if e.p.id=par then Zev Xc e else e).p.cores=e.p.cores:=fun e=>by split<;>rfl
   have tst:∀ e:PE,(if e.p.id=par then Zev Xc e else e).p.status=e.p.status:=fun e=>by split<;>rfl
   have tpa:∀ e:PE,(if e.p.id=par then Zev Xc e else e).p.parent=e.p.parent:=fun e=>by split<;>rfl
   have twt:∀ e:PE,(if e.p.id=par then Zev Xc e else e).p.waiting=Xb→e.p.waiting=Xb∧e.p.id≠par:=fun e hh=>by
    by_cases h1:e.p.id=par
    ·rw [if_pos h1] at hh;cases hh
    ·rw [if_neg h1] at hh;exact ⟨hh,h1⟩
   refine ⟨fun e' he' h1=>?_,fun e' he' he1=>?_,fun e' he' he1=>?_,fun e' he' hw=>?_⟩
   ·obtain ⟨e,he,hek,rfl⟩:=memt.1 he'
    rw [tid] at h1
    obtain ⟨q,hq,h2,h3⟩:=h.par e he h1
    have hqk:q.p.id≠k:=fun hh=>hno e he (h2.symm.trans hh)
    refine ⟨_,memt.2 ⟨q,hq,hqk,rfl⟩,by rw [tid,tpa,h2],fun hh=>.inl ?_⟩
    rw [tid]
    exact (h3 (by rw [← ten];exact hh)).elim (fun a=>a) fun a=>absurd a hqk
   ·obtain ⟨e,he,hek,rfl⟩:=memt.1 he'
    rw [tcs]
    have:=h.fin e he (by rw [← ten];exact he1)
    refine ⟨this.1,?_⟩
    split
    ·rfl
    ·exact this.2
   ·obtain ⟨e,he,hek,rfl⟩:=memt.1 he'
    rw [tst]
    exact h.run e he (by rw [← ten];exact he1)
   ·obtain ⟨e,he,hek,rfl⟩:=memt.1 he'
    obtain ⟨hw1,hw2⟩:=twt e hw
    rw [tid]
    have hep:∀ d∈es,d.p.parent=e.p.id→d.p.id≠k:=fun d hd hdp hdk=>hw2 (by rw [← hdp,hkp d hd hdk])
    obtain ⟨⟨w,hwm,w1,w2⟩,w3⟩:=h.wt e he hw1
    refine ⟨⟨_,memt.2 ⟨w,hwm,hep w hwm w1,rfl⟩,by rw [tpa];exact w1,.inl ?_⟩,fun d' hd' hdp=>?_⟩
    ·rw [ten];exact w2.elim (fun a=>a) fun a=>absurd a (hep w hwm w1)
    ·obtain ⟨d,hd,hdk,rfl⟩:=memt.1 hd'
     rw [tpa] at hdp
     rw [ten]
     exact .inl ((w3 d hd hdp).elim (fun a=>a) fun a=>absurd a hdk)
  ·rename_i hpw
   refine stay fun e he hep=>?_
   have:e=p:=Zrn ho.srt he hpm (hep.trans hpi.symm)
   subst this
   simpa using hpw
 ·rename_i hf
  refine stay fun e he hep=>?_
  have:=List.find?_eq_none.1 hf e he
  simp [hep] at this
theorem Zq9 {k st:Int} {e0:PE} (h:TP es) (ho:LOk es last) (hr:J1 es k=Xa e0):TP (Y1 es k st).1:=by
 obtain ⟨hf,hen⟩:=Z2 hr
 have hem:=Wa hf
 have hek:e0.p.id=k:=by have:=X4 hf;simpa using this
 have hrg:=ho.rng e0 hem
 unfold Y1
 rw [hf]
 dsimp only
 by_cases hk1:k=1
 ·rw [if_pos hk1]
  subst hk1
  exact Zr1 h ho hr
 ·rw [if_neg hk1]
  have hu:LOk (JP k (JD st) es) last:=Za8 ho (fun _=>rfl) fun _=>rfl
  have hkd:∀ e∈JP k (JD st) es,e.p.id=k→e.p.ended=Xb:=fun e he hh=>by
   obtain ⟨a,ha,rfl⟩:=Xj.1 he
   split
   ·rfl
   ·rename_i hak
    rw [if_neg hak] at hh
    exact absurd hh hak
  have hids:(es.map fun e=>e.p.id)=(JP k (JD st) es).map fun e=>e.p.id:=(ZcX (f:=JD st) fun _=>rfl).symm
  obtain ⟨g1,g2⟩:=Zin (k:=k) (by omega) (es.map fun e=>e.p.id) _ (Zte (st:=st) h ho hr hk1) hu hkd fun e he _=>by rw [hids];exact Xj.2 ⟨e,he,rfl⟩
  have hlk:LOk (ZI k (JP k (JD st) es) (es.map fun e=>e.p.id)).1 last:=ZcL (by omega) _ _ hu
  refine ZsV g1 hlk (by omega) (ZqQ hkd (ZcJ k _ _)) g2 (fun e he hek'=>?_) hek
  -- its parent is still the same
  have hfe:=Zbx (k:=k) (f:=JD st) (fun _=>rfl) hf
  rw [if_pos hek] at hfe
  have hkn:k∉Jx (JP k (JD st) es) k:=fun hh=>by
   obtain ⟨c,hc,hck⟩:=Xj.1 hh
   rw [Wl] at hc
   have h1:=hu.par c hc.1
   have h2:c.p.parent=k:=by simpa using hc.2
   omega
  have key:∀ (ks:List Int) (fs:List PE) (a:PE),k∉ks→fs.find? (fun e=>decide (e.p.id=k))=Xa a→∃ a',(ZI k fs ks).1.find? (fun e=>decide (e.p.id=k))=Xa a'∧a'.p.parent=a.p.parent:=by
   intro ks
   induction ks with
   | nil => exact fun fs a _ ha => ⟨a, ha, rfl⟩
   | cons y ks ih =>
    intro fs a hn ha
    obtain ⟨a1,t1,_,_,t4,_⟩:=KK (pid:=k) (z:=y) (k:=k) (fun hh=>hn (by simp [hh])) ha
    obtain ⟨a2,u1,u2⟩:=ih _ a1 (fun hh=>hn (by simp [hh])) t1
    exact ⟨a2,u1,u2.trans t4⟩
  have hlp:ZI k (JP k (JD st) es) (es.map fun e=>e.p.id)=ZI k (JP k (JD st) es) (Jx (JP k (JD st) es) k):=by rw [hids,ZgV hu.srt]
  obtain ⟨a',u1,u2⟩:=key _ _ _ hkn hfe
  rw [← hlp] at u1
  have hfs:=Z7 hlk.srt he
  rw [hek',u1] at hfs
  rw [← Option.some.inj hfs,u2]
  rfl
theorem ZaS (st:Int):∀ (zs:List Int) (es:List PE),TP es→LOk es last→TP (Zi st es zs).1
 | [], _, h, _ => h
 | z :: zs, es, h, ho => by
  cases hr:J1 es z with
  | none =>
   simp only [Zi,hr]
   exact ZaS st zs es h ho
  | some e =>
   simp only [Zi,hr]
   exact ZaS st zs _ (Zq9 h ho hr) (Kx ho)
end
end Go.W
