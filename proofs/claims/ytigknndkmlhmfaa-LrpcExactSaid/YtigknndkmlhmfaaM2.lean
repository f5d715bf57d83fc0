import Derived.Test.YtigknndkmlhmfaaM1
import Derived.Laws.MakeOwn
import Derived.Laws.CopyRow
import Derived.Below
open Option renaming some→Xa,none→Xe,map_some→Xv
open Bool renaming true→Xb,false→Xc,and_eq_true→Xx
open Option.some renaming injEq→Xf,inj→Xp
open List renaming length_map→Xi,mem_of_getElem?→Xj,map_cons→Xk,getElem?_map→Xl,mem_map→Xm,getElem?_eq_some_iff→Xn,getElem?_eq_getElem→Xq,length_append→Xr,mem_append→Xs,length_take→Xt,mem_cons→Xu,append_assoc→Xw,getElem_mem→Xy,getElem?_take→Xz,getElem?_append_right→XB,all_eq_true→XC,getElem?_append_left→XE,replicate→XG,mem_singleton→XH,getElem?_drop→XI,getElem?_cons_zero→XK,map_nil→XL,length_cons→XN,mem_of_mem_take→XP,mem_of_mem_drop→XS,mem_iff_getElem?→XU,length_drop→XV,nil_append→X4,nodup_cons→X7,eq_nil_of_length_eq_zero→Ub,length_set→Ud,mem_or_eq_of_mem_set→Ue,size_toArray→Uk,range→Un,flatten_cons→Uo,length_nil→Up,getElem?_set_self→Uq,getElem?_set_ne→Ur,getElem?_eq_none→Ux,take_of_length_le→UA,map_toArray→UB,ext_getElem?→UD,flatten_append→UF,mem_replicate→UG,any_eq_true→UJ,filterMap_cons→UP,drop_of_length_le→UQ,getElem?_toArray→U1,getElem?_modify→U2,length_eq_one_iff→U9,mem_flatten→Td,take_left→Tj,length_replicate→Tk,mem_filterMap→Tq,find?_eq_none→Tv,set_eq_take_append_cons_drop→TP,getD_eq_getElem?_getD→TQ
open Prod.mk renaming injEq→Xo
open Nat renaming le_refl→XA,lt_or_ge→XD,mul_le_mul_right→XF,zero_add→XM,lt_of_lt_of_le→XO,add_mul→XT,le_add_right→XX,le_trans→XY,zero_le→XZ,add_sub_cancel→X5,add_zero→Ug,succ_mul→Uj,add_assoc→Uw,mul_one→UM,mul_le_mul_left→UW,add_sub_cancel_left→Tp,eq_of_mul_eq_mul_right→TR
open Array renaming toList_inj→XR,getElem?_eq_getElem→X8,getElem?_eq_some_iff→Ua,toArray_toList→UE,length_toList→UX,toList_append→Ti,getElem?_modify→Tl
set_option linter.unusedVariables false
set_option linter.unusedSimpArgs false
set_option linter.defProp false
namespace Go.AM
theorem Zal (cs:List AV) (off:Nat) (x:AV) (h:off < cs.length):cs.take off++[x]++cs.drop (off+1)=cs.set off x:=by
 rw [TP,if_pos h]
 simp
theorem Kz (σ:Nat→AV) (us:List (Nat×AV)) (d:Nat) (x:AV):JC σ (us++[(d,x)])=upd (JC σ us) d x:=by
 induction us generalizing σ with
 | nil => rfl
 | cons u us ih => obtain ⟨e, y⟩ := u; simp only [List.cons_append, JC]; exact ih _
theorem Zns:∀ (us:List (Nat×AV)) (σ:Nat→AV) (i:Nat),JC σ us i=σ i∨∃ u∈us,JC σ us i=u.2
 | [], _, _ => .inl rfl
 | (d, x) :: us, σ, i => by
  simp only [JC]
  rcases Zns us (upd σ d x) i with h | ⟨v,hv,h⟩
  ·by_cases hi:i=d
   ·subst hi
    exact .inr ⟨(i,x),by simp,by rw [h,ZC]⟩
   ·exact .inl (by rw [h,Zf _ _ hi])
  ·exact .inr ⟨v,by simp [hv],h⟩
theorem Zcx (us:List (Nat×AV)) (σ:Nat→AV) (d:Nat) (h:d∉us.map (·.1)):JC σ us d=σ d:=by
 induction us generalizing σ with
 | nil => rfl
 | cons u us ih =>
  obtain ⟨e,y⟩:=u
  simp only [Xk,Xu,not_or] at h
  simp only [JC]
  rw [ih _ h.2,Zf _ _ h.1]
theorem ZlQ {σ:Nat→AV} {t d:Nat} {us:List (Nat×AV)} {cs:List AV} (hd:σ d = .box cs) (h:us = []∨Kj σ t us):d∉us.map (·.1):=by
 rcases h with rfl | ⟨h,_⟩
 ·simp
 ·intro hm
  obtain ⟨u,hu,rfl⟩:=Xm.1 hm
  obtain ⟨_,_,k,hk⟩:=h u hu
  exact (Yx hk).1 cs hd
theorem ZdG {T':Odr} {P:Program} {o:Oper} {σ:Nat→AV} {T:TypeId} {a:Operand} {t d off:Nat} {cs:List AV} {x:Bool} {e:TypeId} {xs:List (List AV)} {us:List (Nat×AV)} (ho:o.op = .store T a (.tmp t)) (ha:Zt P σ a = .ptr d off) (hd:σ d = .box cs)
  (ht:σ t = .own x e xs) (hn:P.cellsOf T=1) (hfit:off < cs.length) (hnr:Zbx ((cs.drop off).take 1)∨Yw T' σ d []) (hus:(x=Xc∧us = [])∨Yw T' σ t us) :
  Kc T' P o σ .dead (((t,K8 P x e xs)::us)++[(d,.box (cs.set off (.own x e xs)))]) [d]:=by
 intro c hc σ' tm w lim X hid hag hT hsim next Q hnx
 have hga:Zt P σ' a=Zt P σ a:=ZJ fun t ht=>hid t (by simp [Zw (o:=o) (x:=a) (by rw [ho];simp [Op.operands]) ht])
 have hd':σ' d = .box cs:=by rw [hag d (by simp),hd]
 have ht':σ' t = .own x e xs:=by rw [hag t (by simp),ht]
 have hdt:d≠t:=fun h=>by rw [h,ht'] at hd';cases hd'
 have hus':(x=Xc∧us = [])∨Kj σ' t us:=hus.imp id fun h=>h.all hT
 have hva:=Yj hc hsim ha hga
 rw [← hc] at hva
 obtain ⟨b,h1,h2,h3⟩:=KW hsim hd' hva
 obtain ⟨i,hi⟩:=Zy (P:=P) (T:=T) (by omega)
 have hrd:=hsim.rel d
 rw [hd'] at hrd
 obtain ⟨b9,_,_,m1,m2,_⟩:=(show ZN c.P w lim (X d) cs _ from hrd)
 obtain ⟨X1,k1,k2,k3,k4⟩:=hsim.freeAll (us:=us) ht' hus'
 have hd1:JC σ' ((t,K8 c.P x e xs)::us) d = .box cs:=by
  rw [Zcx _ _ _ ?_,hd']
  simp only [Xk,Xu,not_or]
  exact ⟨hdt,ZlQ hd' (hus'.imp (fun h=>h.2) id)⟩
 have hr1:=k1.rel d
 rw [hd1] at hr1
 obtain ⟨b0,arr,ty,g1,g2,g3,g4,g5,g6,g7⟩:=(show ZN c.P w lim (X1 d) cs _ from hr1)
 have hb0:b0=b:=by
  rw [h1] at m1
  rw [m2] at g2
  simp only [Value.pointer.injEq,Xf,Addr.mk.injEq,and_true] at g2
  have:=Xp m1
  omega
 subst hb0
 have hset:=k1.setCells (off:=off) (vc:=[.own x e xs]) (us:=[tm.getD t undef]) (fun i=>if i=0 then X t 0 else Xe) hd1 g1 (by simp;omega) rfl
  (fun z hz=>by simp at hz;subst hz;exact .inr (.inl ⟨x,e,xs,rfl⟩)) (fun j z u hz hu=>by
   cases j with
   | zero =>
    simp only [XK,Xf] at hz hu
    subst hz
    subst hu
    show ZY c.P w lim x e xs _ (if 0=0 then X t 0 else Xe)
    rw [if_pos rfl]
    exact k2
   | succ j => simp at hz) g3 (fun k h1 h2 i hi hr => by
   rcases hnr with hnr | hdr
   ·exact Zdz k1 hd1 hnr h1 (by simpa using h2) hr
   ·rcases Zns ((t,K8 c.P x e xs)::us) σ' i with h | ⟨u,hu,h⟩
    ·rw [h] at hr
     have:=(hdr.all hT).2 i (k+1) hi hr
     simp at this
    ·rw [h] at hr
     rcases Xu.1 hu with rfl | hu
     ·cases x<;>rcases hr with hr | ⟨_,hr⟩ <;> cases hr
     ·rcases hus' with ⟨_,rfl⟩ | hda
      ·simp at hu
      ·rw [(hda.1 u hu).2.1] at hr
       rcases hr with hr | ⟨_,hr⟩ <;> cases hr) (fun j b' hb'=>by
   by_cases hj:j=0
   ·subst hj
    rw [if_pos rfl] at hb'
    exact ⟨by simp,(k3 b' hb').1,(hsim.ours t 0 b' hb').1,(k3 b' hb').2,fun i' hi'=>by
     by_cases hz:i'=0
     ·exact hz.symm
     ·rw [if_neg hz] at hi';cases hi'⟩
   ·rw [if_neg hj] at hb';cases hb') (hnw:=fun j e1 xs1 b' m1 m2 m3=>by
   by_cases hj:j=0
   ·subst hj
    rw [if_pos rfl] at m3
    simp only [XK,Xf,AV.own.injEq] at m1
    obtain ⟨rfl,rfl,rfl⟩:=m1
    rw [k4 _ (XY hsim.ntN (XX _ _))]
    exact hsim.nst t 0 _ _ b' (by rw [ht'];rfl) m2 m3
   ·rw [if_neg hj] at m3;cases m3)
 refine JU (w':=w.setRow b0 (arr.toList.take off++[tm.getD t undef]++arr.toList.drop (off+1)).toArray) ?_ (hnx undef _ ?_)
 ·have hcell:(tm.getD t undef).cells = [tm.getD t undef].toArray∧(tm.getD t undef).oneCell'=Xb:=ZY.cells1 k2
  have hst:=Yr (P:=P) (T:=T) (w:=w) (b:=b0) (off:=off) (v:=tm.getD t undef) hi hcell.1 (by simp [hn]) g3 (by simp [g4];omega) (fun u hu=>by
   simp at hu
   subst hu
   simpa using hcell.2)
  have hev:Act.eval ⟨tm,[]⟩ (.tmp t)=tm.getD t undef:=rfl
  simp only [execOp,ho,h2,hev,Sem.run_bind,hst,Result.andThen_ok,Sem.run_pure]
  rfl
 ·have hl:cs.take off++[.own x e xs]++cs.drop (off + [AV.own x e xs].length)=cs.set off (.own x e xs):=Zal cs off _ hfit
  rw [hl,hc] at hset
  rw [Kz]
  exact ZE hset rfl (k:=0) trivial
theorem Zaq {P:Program} {o:Oper} {σ:Nat→AV} {T:TypeId} {a:Operand} {d off:Nat} {cs:List AV} {e:TypeId} {xs:List (List AV)} (ho:o.op = .load T a) (hT:Z2 P T=Xa Xc)
  (ha:Zt P σ a = .ptr d off) (hd:σ d = .box cs) (hx:cs[off]? = Xa (.own Xb e xs)):JO P o σ (.mref d (off+1)) [] [d]:=by
 refine ZK [d] rfl fun c hc σ' tm w lim X hg hfp hsim=>?_
 rw [ho] at hg
 have hv:=Yj hc hsim ha (hg a (by simp [Op.operands]))
 have hd':σ' d = .box cs:=by rw [hfp d (by simp),hd]
 rw [← hc] at hv
 obtain ⟨b,h1,h2,h3⟩:=KW hsim hd' hv
 have hlt:off < cs.length:=(Xn.1 hx).1
 obtain ⟨b0,arr,ty,g1,g2,g3,g4,g5,g6,g7⟩:=h3
 have hb0:b0=b:=by rw [g1] at h1;exact Xp h1
 subst hb0
 have hu:arr[off]? = Xa arr[off]:=X8 (by omega)
 refine ⟨arr[off],?_,e,xs,by rw [hd'];simp only [Zr,hx],?_⟩
 ·have hcell:w.cell? ⟨b0,off,Xe⟩=Xa arr[off]:=by rw [Zl g3];exact hu
  simp [execOp,ho,h2,JG hT hcell]
 ·have:=ZY.sliceV (show ZY c.P w lim Xb e xs arr[off] (X d (off+1)) from g7 off _ _ hx hu) (hsim.deepB (xs:=xs) (by rw [hd'];simp only [Z5,hx]))
  rw [hc] at this
  exact this
theorem WX {T':Odr} {P:Program} {o:Oper} {σ:Nat→AV} {T:TypeId} {a:Operand} {d off:Nat} {cs:List AV} {e:TypeId} {xs:List (List AV)} (ho:o.op = .load T a) (hT:Z2 P T=Xa Xc)
  (ha:Zt P σ a = .ptr d off) (hd:σ d = .box cs) (hx:cs[off]? = Xa (.own Xb e xs)) (hk:T'.kp d off=Xb):Kc T' P o σ (.mref d (off+1)) [] []:=by
 refine Zb8 hd fun σ' hrel=>?_
 obtain ⟨cs2,y,h1,h2,h3⟩:=Zgo hrel hd hk hx
 obtain ⟨ys,rfl⟩:=ZhJ h3
 exact ⟨cs2,h1,fun σ2 g1 g2=>Zaq ho hT ((ZcA hd g1 g2 a).trans ha) g2 h2⟩
theorem Ze1 {P:Program} {o:Oper} {σ:Nat→AV} {T:TypeId} {a:Operand} {d off:Nat} {cs:List AV} {e:TypeId} {xs:List (List AV)} (ho:o.op = .load T a) (hT:Z2 P T=Xa Xc)
  (ha:Zt P σ a = .ptr d off) (hd:σ d = .box cs) (hx:cs[off]? = Xa (.own Xc e xs)):JO P o σ (.own Xc e xs) [(d,.box (cs.set off (.slice Xc (P.cellsOf e) xs)))] [d]:=by
 intro c hc σ' tm w lim X hid hag hsim next Q hn
 have hg:Zt P σ' a=Zt P σ a:=ZJ fun t ht=>hid t (by simp [Zw (o:=o) (x:=a) (by rw [ho];simp [Op.operands]) ht])
 have hv:=Yj hc hsim ha hg
 have hd':σ' d = .box cs:=by rw [hag d (by simp),hd]
 rw [← hc] at hv
 obtain ⟨b,h1,h2,h3⟩:=KW hsim hd' hv
 have hlt:off < cs.length:=(Xn.1 hx).1
 have hrel:=hsim.rel d
 rw [hd'] at hrel
 obtain ⟨b0,arr,ty,g1,g2,g3,g4,g5,g6,g7⟩:=(show ZN c.P w lim (X d) cs _ from hrel)
 have hb0:b0=b:=by rw [g1] at h1;exact Xp h1
 subst hb0
 have hlt':off < arr.size:=by omega
 have hu:arr[off]? = Xa arr[off]:=X8 hlt'
 have hown:ZY c.P w lim Xc e xs arr[off] (X d (off+1)):=g7 off _ _ hx hu
 have hdn:d < c.nt:=by
  rcases XD d c.nt with hlt | hge
  ·exact hlt
  ·have:=hsim.out d hge;rw [hd'] at this;rcases this with h0 | h0<;>cases h0
 have h1':Sim c (upd σ' d (.box (cs.set off (.slice Xc (P.cellsOf e) xs)))) tm w lim (Ke X d fun k=>if k=off+1 then Xe else X d k):=by
  refine hsim.putRow (S:=fun _=>False) _ (ZU.refl w lim _) (fun _ hs=>hs.elim) hdn rfl (fun j _=>rfl) (.inr ⟨⟨_,rfl⟩,by rw [if_neg (by omega)],rfl⟩) (fun i q hi hr=>?_) ?_ (fun k b hk=>?_) (fun k k' b hk hk'=>?_) (hns:=fun k e1 xs1 b m1 m2 m3=>?_)
  ·obtain ⟨p,hp⟩:=Y9 hsim hr
   rw [hd'] at hp
   cases q with
   | zero => simp [Zr] at hp
   | succ q =>
    have hqo:q≠off:=by
     intro he
     subst he
     simp [Zr,hx] at hp
    refine ⟨fun e2 xs2 hex=>⟨xs2,?_,rfl⟩,by rw [if_neg (by omega)],fun _ _=>.of rfl⟩
    rw [hd'] at hex
    simp only [Zr,Ur (Ne.symm hqo)] at hex ⊢
    exact hex
  ·refine ⟨b0,arr,ty,by rw [Zo];exact g1,g2,g3,by simp [g4],g5,fun y hy=>?_,fun j y u hy hju=>?_⟩
   ·obtain ⟨j,hj⟩:=XU.1 hy
    by_cases hji:j=off
    ·subst hji
     rw [Uq hlt] at hj
     simp only [Xf] at hj
     subst hj
     exact .inl rfl
    ·rw [Ur (fun h=>hji h.symm)] at hj
     exact g6 y (Xj hj)
   ·rw [Zo]
    by_cases hji:j=off
    ·subst hji
     rw [Uq hlt] at hy
     simp only [Xf] at hy
     subst hy
     rw [hu] at hju
     simp only [Xf] at hju
     subst hju
     have:=ZY.rep hown Xc rfl
     rw [hc] at this
     exact this
    ·rw [Ur (fun h=>hji h.symm)] at hy
     rw [if_neg (by omega)]
     exact g7 j y u hy hju
  ·split at hk
   ·cases hk
   ·exact ⟨(hsim.ours d k b hk).1,(hsim.ours d k b hk).2,fun a j ha hj=>ha (hsim.dist a j d k b hj hk).1⟩
  ·split at hk<;>split at hk'
   ·omega
   ·cases hk
   ·cases hk'
   ·exact (hsim.dist d k d k' b hk hk').2
  ·rcases JR m1 with ⟨_,h⟩ | ⟨h,h'⟩
   ·cases h
   ·rw [if_neg h] at m3
    exact hsim.nst d k e1 xs1 b (by rw [hd'];exact h') m2 m3
 refine Zs (v:=arr[off]) (w':=w) ?_ (hn _ w (Z3 h1' hown (fun b hb=>⟨(hsim.ours d _ b hb).2,fun a j haj=>?_⟩) (fun hx=>by cases hx) fun hx=>by cases hx))
 ·have hcell:w.cell? ⟨b0,off,Xe⟩=Xa arr[off]:=by rw [Zl g3];exact hu
  simp [execOp,ho,h2,JG hT hcell]
 ·by_cases ha:a=d
  ·subst ha
   rw [Zo] at haj
   split at haj
   ·cases haj
   ·rename_i hne
    exact hne (hsim.dist a j a (off+1) b haj hb).2
  ·rw [Zj X _ ha] at haj
   exact ha (hsim.dist a j d (off+1) b haj hb).1
theorem ZdD {T':Odr} {P:Program} {o:Oper} {σ:Nat→AV} {T:TypeId} {a:Operand} {d off:Nat} {cs:List AV} {e:TypeId} {xs:List (List AV)} {us:List (Nat×AV)} (ho:o.op = .load T a) (hT:Z2 P T=Xa Xc)
  (ha:Zt P σ a = .ptr d off) (hd:σ d = .box cs) (hx:cs[off]? = Xa (.own Xb e xs)) (hus:Yw T' σ d us) (hmv:Mv P e xs):Kc T' P o σ (.own Xb e xs) (us++[(d,.box (cs.set off .gone))]) [d]:=by
 intro c hc σ' tm w lim X hid hag hT' hsim next Q hn
 have hg:Zt P σ' a=Zt P σ a:=ZJ fun t ht=>hid t (by simp [Zw (o:=o) (x:=a) (by rw [ho];simp [Op.operands]) ht])
 have hv:=Yj hc hsim ha hg
 have hd':σ' d = .box cs:=by rw [hag d (by simp),hd]
 rw [← hc] at hv
 obtain ⟨b,h1,h2,h3⟩:=KW hsim hd' hv
 have hlt:off < cs.length:=(Xn.1 hx).1
 have hda:=hus.all hT'
 obtain ⟨hd1,hd2⟩:=hda
 obtain ⟨X1,k1,k2⟩:=hsim.drops us fun u hu=>by
  obtain ⟨m0,m1,k,m3⟩:=hd1 u hu
  obtain ⟨p1,p2,p3⟩:=Yx m3
  exact ⟨m1,p2,JJ hsim (fun e=>by rw [e] at m3;rcases m3 with m3 | ⟨_,m3⟩ <;> cases m3) p3⟩
 have hdm:d∉us.map (·.1):=by
  intro hm
  obtain ⟨u,hu,rfl⟩:=Xm.1 hm
  exact (hd1 u hu).1 rfl
 have hdead:∀ (σ:Nat→AV) (i:Nat),JC σ us i=if i∈us.map (·.1) then .dead else σ i:=fun σ i=>Ku us σ i fun u hu=>(hd1 u hu).2.1
 have hds:JC σ' us d = .box cs:=by rw [hdead,if_neg hdm,hd']
 have hnor:∀ i k,i≠d→Jl (JC σ' us i) d k→False:=fun i k hi hr=>by
  rw [hdead] at hr
  split at hr
  ·rcases hr with hr | ⟨_,hr⟩ <;> cases hr
  ·rename_i hm
   exact hm (hd2 i k hi hr)
 have hXd:X1 d=X d:=k2 d hdm
 have hrel:=k1.rel d
 rw [hds] at hrel
 obtain ⟨b0,arr,ty,g1,g2,g3,g4,g5,g6,g7⟩:=(show ZN c.P w lim (X1 d) cs _ from hrel)
 have hb0:b0=b:=by rw [hXd] at g1;rw [g1] at h1;exact Xp h1
 subst hb0
 have hlt':off < arr.size:=by omega
 have hu:arr[off]? = Xa arr[off]:=X8 hlt'
 have hown:ZY c.P w lim Xb e xs arr[off] (X1 d (off+1)):=g7 off _ _ hx hu
 have hdn:d < c.nt:=by
  rcases XD d c.nt with hlt | hge
  ·exact hlt
  ·have:=hsim.out d hge;rw [hd'] at this;rcases this with h0 | h0<;>cases h0
 have h1':Sim c (upd (JC σ' us) d (.box (cs.set off .gone))) tm w lim (Ke X1 d fun k=>if k=off+1 then Xe else X1 d k):=by
  refine k1.putRow (S:=fun _=>False) _ (ZU.refl w lim _) (fun _ hs=>hs.elim) hdn rfl (fun j _=>rfl) (.inr ⟨⟨_,rfl⟩,by rw [if_neg (by omega)],rfl⟩) (fun i q hi hr=>(hnor i q hi hr).elim) ?_ (fun k b hk=>?_) (fun k k' b hk hk'=>?_) (hns:=fun k e1 xs1 b m1 m2 m3=>?_)
  ·refine ⟨b0,arr,ty,by rw [Zo];exact g1,g2,g3,by simp [g4],g5,fun y hy=>?_,fun j y u hy hju=>?_⟩
   ·obtain ⟨j,hj⟩:=XU.1 hy
    by_cases hji:j=off
    ·subst hji
     rw [Uq hlt] at hj
     simp only [Xf] at hj
     subst hj
     exact .inr (.inr rfl)
    ·rw [Ur (fun h=>hji h.symm)] at hj
     exact g6 y (Xj hj)
   ·rw [Zo]
    by_cases hji:j=off
    ·subst hji
     rw [Uq hlt] at hy
     simp only [Xf] at hy
     subst hy
     exact trivial
    ·rw [Ur (fun h=>hji h.symm)] at hy
     rw [if_neg (by omega)]
     exact g7 j y u hy hju
  ·split at hk
   ·cases hk
   ·exact ⟨(k1.ours d k b hk).1,(k1.ours d k b hk).2,fun a j ha hj=>ha (k1.dist a j d k b hj hk).1⟩
  ·by_cases e1:k=off+1
   ·rw [if_pos e1] at hk;cases hk
   ·by_cases e2:k'=off+1
    ·rw [if_pos e2] at hk';cases hk'
    ·rw [if_neg e1] at hk
     rw [if_neg e2] at hk'
     exact (k1.dist d k d k' b hk hk').2
  ·rcases JR m1 with ⟨_,h⟩ | ⟨h,h'⟩
   ·cases h
   ·rw [if_neg h] at m3
    exact k1.nst d k e1 xs1 b (by rw [hds];exact h') m2 m3
 rw [← Kz] at h1'
 refine Zs (v:=arr[off]) (w':=w) ?_ (hn _ w (Z3 h1' hown (fun b hb=>⟨(k1.ours d _ b hb).2,fun a j haj=>?_⟩) (fun _=>.mv (by rw [hc];exact hmv)) fun _ hdp b hb=>?_))
 rotate_left 2
 ·have:=hsim.ntN
  rw [Zj X1 _ (show ngN+b≠d by omega)]
  exact k1.nst d (off+1) e xs b (by rw [hds];simp only [Z5,hx]) hdp hb
 ·have hcell:w.cell? ⟨b0,off,Xe⟩=Xa arr[off]:=by rw [Zl g3];exact hu
  simp [execOp,ho,h2,JG hT hcell]
 ·by_cases ha:a=d
  ·subst ha
   rw [Zo] at haj
   split at haj
   ·cases haj
   ·rename_i hne
    exact hne (k1.dist a j a (off+1) b haj hb).2
  ·rw [Zj X1 _ ha] at haj
   exact ha (k1.dist a j d (off+1) b haj hb).1
theorem VN {P:Program} {T ty e:TypeId} {i:TypeInfo} (hT:P.underlying T=Xa (.slice e)) (hi:P.info? e=Xa i) (w:World) (base:Option Addr) (n cap:Nat) (hn:n≤cap) (a:Option Addr) (c:Nat) :
  (Builtin.append_ #[T,T] ty #[.slice base n cap,.slice a 0 c]).run P w = .ok (.slice base n cap) w:=by
 cases a<;>cases base <;>
  simp [Builtin.append_,run_underlying hT,sizeOf,typeInfo,hi,Builtin.lenOf,hn,Builtin.firstCells,loadCells,loadCellsFrom,storeCells]
theorem Zqy {P:Program} {w:World} {lim:Nat→Nat} (x:Bool) {e:TypeId} {zs:List (List AV)} {us:List Value} {arr:Array Value} {cap:Nat} (h1:us.length=zs.length*P.cellsOf e) (h2:zs.length≤cap) (h3:cap≤maxLen)
  (h4:arr.size=cap*P.cellsOf e) (h5:arr.toList.take us.length=us) (h6:∀ x∈zs,x.length=P.cellsOf e) (h7:∀ x∈zs,∀ c∈x,c.isCell=Xb)
  (h8:∀ (j:Nat) (c:AV) (u:Value),zs.flatten[j]? = Xa c→us[j]? = Xa u→Rep w lim c u) (S:Nat→Prop) :
  ZY P (w.drew.alloc (.cells arr e)) (fun b=>if b=w.heap.size then (if x=Xb then 0 else us.length) else lim b) x e zs (.slice (Xa ⟨w.heap.size,0,Xe⟩) zs.length cap) (Xa w.heap.size)∧
  ZU w lim (w.drew.alloc (.cells arr e)) (fun b=>if b=w.heap.size then (if x=Xb then 0 else us.length) else lim b) S:=by
 have hstep:ZU w lim (w.drew.alloc (.cells arr e)) (fun b=>if b=w.heap.size then (if x=Xb then 0 else us.length) else lim b) S:=by
  have:=Yu w.drew lim arr e (if x=Xb then 0 else us.length) S
  exact ⟨this.os,this.tape,this.output,this.size,this.frz,this.blk,this.ext⟩
 refine ⟨.inl ⟨us,⟨h1,.inr ⟨w.heap.size,cap,arr,rfl,XZ _,JW w.drew arr e,h2,h3,h4,by rw [← h1];exact h5⟩⟩,rfl,fun b hb=>?_,h6,h7,fun j c u hc hu=>(h8 j c u hc hu).mono hstep.ext⟩,hstep⟩
 simp only [Xf] at hb
 subst hb
 exact if_pos rfl
def RdS (w:World) (lim:Nat→Nat) (s:Nat) (ys:List (List AV)) (v:Value):Prop:=
 (ys = []∧∃ a c,v = .slice a 0 c)∨∃ (b o cap:Nat) (us:List Value),v = .slice (Xa ⟨b,o,Xe⟩) ys.length cap∧(∀ e∈ys,e.length=s)∧(∀ e∈ys,∀ c∈e,c.isCell=Xb)∧us.length=ys.length*s∧
  (∀ (j:Nat) (u:Value),us[j]? = Xa u→w.cell? ⟨b,o+j,Xe⟩=Xa u)∧∀ (j:Nat) (c:AV) (u:Value),ys.flatten[j]? = Xa c→us[j]? = Xa u→Rep w lim c u
theorem RdS.of {w:World} {lim:Nat→Nat} {f:Bool} {s:Nat} {ys:List (List AV)} {v:Value} (h:Rep w lim (.slice f s ys) v):RdS w lim s ys v:=by
 cases h with
 | sliceN => exact .inl ⟨rfl, _, _, rfl⟩
 | sliceE _ => exact .inl ⟨rfl, _, _, rfl⟩
 | @sliceC _ _ _ b o ycap news hs hcl hf hle hlim hnl hncell hnr => exact .inr ⟨b, o, ycap, news, rfl, hs, hcl, hnl, hncell, hnr⟩
theorem RdS.form {w:World} {lim:Nat→Nat} {s:Nat} {ys:List (List AV)} {v:Value} (h:RdS w lim s ys v):∃ a c,v = .slice a ys.length c:=by
 rcases h with ⟨rfl,a,c,h⟩ | ⟨b,o,cap,us,h,_⟩
 ·exact ⟨a,c,h⟩
 ·exact ⟨_,_,h⟩
theorem Zc4 {P:Program} {T ty e:TypeId} {i:TypeInfo} {z:Value} {w:World} {lim:Nat→Nat} {xs ys:List (List AV)} {v yv:Value} {ob:Option Nat} {x:Bool} (hT:P.underlying T=Xa (.slice e)) (hi:P.info? e=Xa i)
  (hz:i.zero=Xa z) (hzs:z.cells.size=i.size) (hx:ZY P w lim x e xs v ob) {b o ycap:Nat} {news:List Value} (hm:ys≠[]) (hyv:yv = .slice (Xa ⟨b,o,Xe⟩) ys.length ycap) (hs:∀ x∈ys,x.length=P.cellsOf e) (hcl:∀ x∈ys,∀ c∈x,c.isCell=Xb) (hnl:news.length=ys.length*P.cellsOf e)
  (hncell:∀ (j:Nat) (u:Value),news[j]? = Xa u→w.cell? ⟨b,o+j,Xe⟩=Xa u) (hnr:∀ (j:Nat) (c:AV) (u:Value),ys.flatten[j]? = Xa c→news[j]? = Xa u→Rep w lim c u) (hroom:(xs.length+ys.length)*(i.bytes+1)≤Jc) (hnm:Zk P e=Xc) :
  ∃ v' w' lim' ob',(Builtin.append_ #[T,T] ty #[v,yv]).run P w = .ok v' w'∧ZY P w' lim' x e (xs++ys) v' ob'∧ZU w lim w' lim' (fun b=>ob=Xa b)∧(ob'=ob∨ob'=Xa w.heap.size)∧
   ∃ (us:List Value) (b':Nat) (arr:Array Value),ob'=Xa b'∧us.length=xs.length*P.cellsOf e∧w'.heap[b']? = Xa (.cells arr e (0,0))∧arr.toList.take (us++news).length=us++news∧∀ g,ob=Xa g→∀ (j:Nat) (u:Value),us[j]? = Xa u→w.cell? ⟨g,j,Xe⟩=Xa u:=by
 have hsz:P.cellsOf e=i.size:=ZI hi
 have hb1:xs.length+ys.length≤1099511627776:=by
  have:(xs.length+ys.length)*1≤(xs.length+ys.length)*(i.bytes+1):=UW _ (by omega)
  unfold Jc at hroom
  omega
 have hb2:(xs.length+ys.length)*i.bytes≤1099511627776:=by
  have:(xs.length+ys.length)*i.bytes≤(xs.length+ys.length)*(i.bytes+1):=UW _ (by omega)
  unfold Jc at hroom
  omega
 subst hyv
 have hm0:0 < ys.length:=List.length_pos_iff.2 hm
 have hnews:∀ (j:Nat) (u:Value),news[j]? = Xa u→w.cell? ((⟨b,o,Xe⟩:Addr).add j)=Xa u:=fun j u hj=>by rw [Jk];exact hncell j u hj
 have hcells:∀ x∈xs++ys,x.length=P.cellsOf e:=by
  intro x hx'
  rcases Xs.1 hx' with h | h
  ·rcases hx.noMap hnm with ⟨_,_,_,_,h4,_⟩ | ⟨rfl,_⟩
   ·exact h4 x h
   ·simp at h
  ·exact hs x h
 have hcc:∀ x∈xs++ys,∀ c∈x,c.isCell=Xb:=by
  intro x hx'
  rcases Xs.1 hx' with h | h
  ·rcases hx.noMap hnm with ⟨_,_,_,_,_,h5,_⟩ | ⟨rfl,_⟩
   ·exact h5 x h
   ·simp at h
  ·exact hcl x h
 have hnew1:∀ u∈news,u.oneCell'=Xb:=by
  intro u hu
  obtain ⟨j,hj⟩:=XU.1 hu
  have hlt:j < ys.flatten.length:=by
   rw [Zh ys _ hs,← hnl];exact (Xn.1 hj).1
  have hcell:=hnr j _ u (Xq hlt) hj
  obtain ⟨y,hy1,hy2⟩:=Td.1 (Xy hlt)
  exact hcell.oneCell (hcl y hy1 _ hy2)
 have both:∀ (us:List Value),us.length=xs.length*P.cellsOf e→(∀ x∈xs,x.length=P.cellsOf e)→(∀ (j:Nat) (c:AV) (u:Value),xs.flatten[j]? = Xa c→us[j]? = Xa u→Rep w lim c u)→
   ∀ (j:Nat) (c:AV) (u:Value),(xs++ys).flatten[j]? = Xa c→(us++news)[j]? = Xa u→Rep w lim c u:=by
  intro us hul hxl hur j c u hc hu
  have hfl:xs.flatten.length=us.length:=by rw [Zh xs _ hxl,hul]
  rw [UF] at hc
  by_cases hj:j < us.length
  ·rw [XE (by omega)] at hc
   rw [XE hj] at hu
   exact hur j c u hc hu
  ·rw [XB (by omega),hfl] at hc
   rw [XB (by omega)] at hu
   exact hnr _ c u hc hu
 have grown:∀ (us:List Value) (old:Nat),us.length=xs.length*P.cellsOf e→(∀ (j:Nat) (c:AV) (u:Value),xs.flatten[j]? = Xa c→us[j]? = Xa u→Rep w lim c u)→(∀ x∈xs,x.length=P.cellsOf e)→
   ∃ lim',ZY P (w.drew.alloc (.cells (us.toArray++news.toArray++Builtin.zeroCells z.cells (grownCap w (xs.length+ys.length) old e-(xs.length+ys.length))) e)) lim' x e (xs++ys) (.slice (Xa ⟨w.heap.size,0,Xe⟩) (xs.length+ys.length) (grownCap w (xs.length+ys.length) old e)) (Xa w.heap.size)∧
    ZU w lim (w.drew.alloc (.cells (us.toArray++news.toArray++Builtin.zeroCells z.cells (grownCap w (xs.length+ys.length) old e-(xs.length+ys.length))) e)) lim' (fun b=>ob=Xa b):=by
  intro us old hul hur hxl
  have hge:=grownCap_ge w (xs.length+ys.length) old e
  have hml:=grownCap_le_maxLen w (xs.length+ys.length) old e (by simp only [maxLen];omega)
  have:=Zqy (P:=P) (w:=w) (lim:=lim) x (e:=e) (zs:=xs++ys) (us:=us++news) (arr:=us.toArray++news.toArray++Builtin.zeroCells z.cells (grownCap w (xs.length+ys.length) old e-(xs.length+ys.length)))
   (cap:=grownCap w (xs.length+ys.length) old e) (by rw [Xr,Xr,hul,hnl,XT]) (by rw [Xr];exact hge) hml ?_ ?_ hcells hcc (both us hul hxl hur) (fun b=>ob=Xa b)
  ·have hla:(xs++ys).length=xs.length+ys.length:=Xr
   rw [hla] at this
   exact ⟨_,this.1,this.2⟩
  ·simp only [Array.size_append,Uk,size_zeroCells,hzs,hul,hnl,hsz,← XT]
   congr 1
   omega
  ·simp only [Ti]
   exact Tj
 rcases hx.noMap hnm with ⟨us,hr,hob,hlimo,hxl,hxc,hur⟩ | ⟨rfl,hob,b',hv⟩
 ·rcases hr.2 with ⟨hv,hn⟩ | ⟨g,cap,cur,hv,hbg,hg,hnc,hcm,hcs,htake⟩
  ·have hxe:xs = []:=Ub hn
   have hue:us = []:=Ub (by rw [hr.1,hn];simp)
   subst hxe
   subst hue
   have hrun:=run_append_nil (P:=P) w T ty e i z hT hi hz ⟨b,o,Xe⟩ ys.length ycap news (by rw [hnl,hsz]) hnews hm0 (by omega) (by simp only [Up,XM] at hb2;omega)
   obtain ⟨lim',h1,h2⟩:=grown [] 0 (by simp) (by simp) (by simp)
   simp only [Up,XM] at h1 h2
   have hemp:([] : List Value).toArray++news.toArray=news.toArray:=by simp
   rw [hemp] at h1 h2
   rw [hv]
   exact ⟨_,_,lim',_,hrun,h1,h2,.inr rfl,[],_,_,rfl,by simp,JW w.drew _ e,by simp only [Ti,X4];exact Tj,fun g _ j u h=>by simp at h⟩
  ·have hobg:ob=Xa g:=by rw [← hob,hv];rfl
   by_cases hroom':xs.length+ys.length≤cap
   ·have hfit:xs.length*i.size+news.length≤cur.size:=by rw [hnl,hcs,hsz,← XT];exact XF _ hroom'
    have hrun:=run_append_room (P:=P) w T ty e i hT hi g xs.length cap cur hg ⟨b,o,Xe⟩ ys.length ycap news (by rw [hnl,hsz]) hnews hnew1 hroom' hfit
    have htake':cur.toList.take (xs.length*i.size)=us:=by rw [← hsz];exact htake
    rw [htake'] at hrun
    have hul:us.length=xs.length*i.size:=by rw [hr.1,hsz]
    have hstep:ZU w lim (w.setRow g (us++news++cur.toList.drop (xs.length*i.size+news.length)).toArray) (fun k=>if k=g then (if x=Xb then 0 else us.length+news.length) else lim k) (fun k=>ob=Xa k):=by
     refine ⟨rfl,rfl,rfl,by simp,fun a _=>Ya w g cur _ e hg a,fun k _ hk=>⟨setRow_other w g k _ (fun h=>hk (by rw [hobg,h])),if_neg (fun h=>hk (by rw [hobg,h]))⟩,fun k hk=>⟨?_,fun p u hp hu=>?_⟩⟩
     ·show lim k≤if k=g then (if x=Xb then 0 else us.length+news.length) else lim k
      split
      ·rename_i h;subst h;rw [hlimo k hobg];split<;>omega
      ·exact XA _
     ·by_cases h:k=g
      ·subst h
       have hp:p < us.length:=by
        rw [hlimo k hobg] at hp
        split at hp<;>omega
       rw [Zl (setRow_heap w k cur _ e (0,0) hg)]
       rw [Zl hg] at hu
       have h1:us[p]? = Xa u:=by
        rw [← htake',Xz,if_pos (by omega)]
        simpa using hu
       rw [U1,Xw,XE hp]
       exact h1
      ·unfold World.cell? at hu ⊢
       rw [setRow_other w g k _ h]
       exact hu
    refine ⟨_,_,_,Xa g,by rw [hv];exact hrun,.inl ⟨us++news,⟨by rw [Xr,Xr,hul,hnl,hsz,XT],.inr ⟨g,cap,_,?_,XZ _,setRow_heap w g cur _ e (0,0) hg,by rw [Xr];exact hroom',hcm,?_,?_⟩⟩,rfl,fun b' hb'=>?_,hcells,hcc,fun j c u hc hu=>(both us hr.1 hxl hur j c u hc hu).mono hstep.ext⟩,hstep,.inl hobg.symm,us,g,_,rfl,hr.1,setRow_heap w g cur _ e (0,0) hg,Tj,fun g' hg' j u hj=>by
     rw [hobg] at hg';cases hg'
     have:=hr.cells (g:=g) (by rw [hv];rfl) j u hj
     rw [Jk,XM] at this
     exact this⟩
    ·rw [Xr]
    ·simp only [Uk,Xr,XV,UX]
     rw [hcs,hsz]
     rw [hcs,hsz] at hfit
     omega
    ·have:(xs++ys).length*P.cellsOf e=(us++news).length:=by rw [Xr,Xr,hul,hnl,hsz,XT]
     rw [this]
     exact Tj
    ·simp only [Xf] at hb'
     subst hb'
     rw [Xr]
     exact if_pos rfl
   ·have holds:∀ (j:Nat) (u:Value),us[j]? = Xa u→w.cell? ((⟨g,0,Xe⟩:Addr).add j)=Xa u:=hr.cells (g:=g) (by rw [hv];rfl)
    have hrun:=run_append_grow (P:=P) w T ty e i z hT hi hz ⟨g,0,Xe⟩ xs.length cap us (by rw [hr.1,hsz]) holds ⟨b,o,Xe⟩ ys.length ycap news (by rw [hnl,hsz]) hnews (by omega) (by omega) (growslice_fits (by omega) (by omega))
    obtain ⟨lim',h1,h2⟩:=grown us cap hr.1 hur hxl
    exact ⟨_,_,lim',_,by rw [hv];exact hrun,h1,h2,.inr rfl,us,_,_,rfl,hr.1,JW w.drew _ e,by simp only [Ti];exact Tj,fun g' hg' j u hj=>by
     rw [hobg] at hg';cases hg'
     have:=holds j u hj
     rw [Jk,XM] at this
     exact this⟩
 ·have hrun:=run_append_grow (P:=P) w T ty e i z hT hi hz b' 0 0 [] (by simp) (by simp) ⟨b,o,Xe⟩ ys.length ycap news (by rw [hnl,hsz]) hnews (by omega) (by omega) (growslice_fits (by omega) (by simp only [Up] at hb2;omega))
  obtain ⟨lim',h1,h2⟩:=grown [] 0 (by simp) (by simp) (by simp)
  exact ⟨_,_,lim',_,by rw [hv];exact hrun,h1,h2,.inr rfl,[],_,_,rfl,by simp,JW w.drew _ e,by simp only [Ti,X4];exact Tj,fun g _ j u h=>by simp at h⟩
theorem K4 {P:Program} {T ty e:TypeId} {i:TypeInfo} {z:Value} {w:World} {lim:Nat→Nat} {xs ys:List (List AV)} {v yv:Value} {ob:Option Nat} {x:Bool} (hT:P.underlying T=Xa (.slice e)) (hi:P.info? e=Xa i)
  (hz:i.zero=Xa z) (hzs:z.cells.size=i.size) (hx:ZY P w lim x e xs v ob) (hy:RdS w lim (P.cellsOf e) ys yv) (hroom:(xs.length+ys.length)*(i.bytes+1)≤Jc) (hnm:Zk P e=Xc) :
  ∃ v' w' lim' ob',(Builtin.append_ #[T,T] ty #[v,yv]).run P w = .ok v' w'∧ZY P w' lim' x e (xs++ys) v' ob'∧ZU w lim w' lim' (fun b=>ob=Xa b)∧(ob'=ob∨ob'=Xa w.heap.size):=by
 have hvform:∃ base cap,v = .slice base xs.length cap∧xs.length≤cap:=by
  rcases hx.noMap hnm with ⟨us,hr,_⟩ | ⟨rfl,_,a,rfl⟩
  ·rcases hr.2 with ⟨hv,hn⟩ | ⟨g,cap,cur,hv,_,_,hnc,_⟩
   ·exact ⟨Xe,0,by rw [hv,hn],by omega⟩
   ·exact ⟨_,cap,hv,hnc⟩
  ·exact ⟨_,0,rfl,XA _⟩
 by_cases hm:ys = []
 ·subst hm
  obtain ⟨base,cap,hv,hle⟩:=hvform
  obtain ⟨a,c,hyv⟩:=hy.form
  refine ⟨v,w,lim,ob,?_,by rw [List.append_nil];exact hx,ZU.refl w lim _,.inl rfl⟩
  rw [hv,hyv]
  exact VN hT hi w base xs.length cap hle a c
 ·rcases hy with ⟨hye,_⟩ | ⟨b,o,ycap,news,hyv,hs,hcl,hnl,hncell,hnr⟩
  ·exact (hm hye).elim
  ·obtain ⟨v',w',lim',ob',h1,h2,h3,h4,_⟩:=Zc4 (ty:=ty) hT hi hz hzs hx hm hyv hs hcl hnl hncell hnr hroom hnm
   exact ⟨v',w',lim',ob',h1,h2,h3,h4⟩
theorem ZcT {P:Program} {o:Oper} {σ:Nat→AV} (x:Bool) {T e:TypeId} {len:Nat} {parts:Array (Nat×Operand)} {i:TypeInfo} {z:Value} {zc cs cs':List AV} (ho:o.op = .buildSlice T len parts)
  (hT:P.underlying T=Xa (.slice e)) (hi:P.info? e=Xa i) (hz:i.zero=Xa z) (hzc:Za8 z.cells.toList=Xa zc) (hzs:z.cells.size=i.size) (hs0:0 < i.size) (hbig:len*i.size≤1048576) (hnm:Zk P e=Xc)
  (hf:Zdm (fun j=>Xa (j*i.size,i.size)) ((XG len zc).flatten) (parts.toList.map fun p=>(p.1,Zt P σ p.2))=Xa cs)
  (hw:cs'.length=cs.length∧∀ (w:World) (lim:Nat→Nat) (us:List Value),YC w lim cs us→YC w lim cs' us):JO P o σ (.own x e (W1 i.size cs' len)) [] []:=by
 intro c hc σ' tm w lim X hid hag hsim next Q hn
 have hg:∀ p∈parts.toList,Zt P σ' p.2=Zt P σ p.2:=fun p hp=>ZJ fun t ht=>hid t (by
  refine Zw (x:=p.2) ?_ ht
  rw [ho]
  simp only [Op.operands,List.mem_toArray]
  exact Xm.2 ⟨p,hp,rfl⟩)
 obtain ⟨h1,h2⟩:=ZdX hc hsim parts hg
 have hz0:=YX (Kl (w:=w) (lim:=lim) hzc) len
 obtain ⟨us',h3,h4⟩:=ZeL (P:=P) (X:=X) (σ:=σ') (k:=0) _ _ _ _ _ hz0 h1 h2 hf
 have hzl:z.cells.toList.length=i.size:=by rw [← hzs];simp
 have hcl:cs.length=len*i.size:=by
  have hinv:∀ (parts:List (Nat×AV)) (cells out:List AV),Zdm (fun j=>Xa (j*i.size,i.size)) cells parts=Xa out→out.length=cells.length:=by
   intro parts
   induction parts with
   | nil => intro cells out h; simp only [Zdm, Xf] at h; rw [h]
   | cons p parts ih =>
    intro cells out h
    simp only [Zdm] at h
    split at h
    ·split at h
     ·rename_i hcond
      rw [ih _ _ h]
      simp
      omega
     ·cases h
    ·cases h
  rw [hinv _ _ _ hf]
  have hzcl:zc.length=i.size:=by rw [(Kl (w:=w) (lim:=lim) hzc).1,hzl]
  simp [hzcl]
 replace h4:=hw.2 _ _ _ h4
 have hcl':cs'.length=len*i.size:=by rw [hw.1,hcl]
 have hb:(Instr.buildSlice T len (parts.map fun p=>(p.1,Act.eval ⟨tm,[]⟩ p.2))).run P w = .ok (.slice (Xa ⟨w.heap.size,0,Xe⟩) len len) (w.alloc (.cells us'.toArray e)):=by
  have hnb:¬ (2^24 < len*i.size):=by omega
  by_cases hnz:len*i.size=0
  ·have hl0:len=0:=(Nat.mul_eq_zero.1 hnz).elim id fun h=>by omega
   subst hl0
   have hr0:Array.range 0 = #[]:=rfl
   simp only [Instr.buildSlice,Sem.run_bind,run_underlying hT,Result.andThen_ok,sizeOf,typeInfo,run_program,hi,Sem.run_pure,gt_iff_lt,Nat.zero_mul,Nat.not_lt_zero,if_false,if_true,hr0,Array.map_empty]
   simp only [List.replicate_zero,List.flatten_nil] at h3
   rw [h3]
   simp [newRow]
  ·have hrep:=replicate_zero z.cells.toList len
   rw [hzl,UE] at hrep
   simp only [Instr.buildSlice,Sem.run_bind,run_underlying hT,Result.andThen_ok,sizeOf,typeInfo,run_program,hi,Sem.run_pure,gt_iff_lt,if_neg hnb,if_neg hnz,zeroValue,hz]
   rw [hrep,h3]
   simp [newRow]
 have hsz:P.cellsOf e=i.size:=ZI hi
 have hstep:=Yu w lim us'.toArray e (if x=Xb then 0 else us'.length) (fun _=>False)
 have hel:(W1 i.size cs' len).length=len:=by simp [W1]
 have hfl:=ZeY i.size len cs' hcl'
 have h5:=h4.mono hstep.ext
 have hlu:us'.length=len*i.size:=by rw [← h4.1,hcl']
 have hlm:len≤maxLen:=by
  have:len*1≤len*i.size:=UW _ hs0
  have:(1048576:Nat)≤maxLen:=by decide
  omega
 have key:ZY P (w.alloc (.cells us'.toArray e)) (fun b=>if b=w.heap.size then (if x=Xb then 0 else us'.length) else lim b) x e (W1 i.size cs' len) (.slice (Xa ⟨w.heap.size,0,Xe⟩) (W1 i.size cs' len).length len) (Xa w.heap.size):=by
  refine .inl ⟨us',⟨by rw [hel,hsz,hlu],.inr ⟨w.heap.size,len,us'.toArray,rfl,XZ _,JW w _ e,by rw [hel];exact XA _,hlm,by simp [hsz,hlu],by rw [hel,hsz,← hlu];simp⟩⟩,rfl,fun b hb=>?_,fun x hx=>?_,fun x hx y hy=>?_,fun j y u hy hu=>?_⟩
  ·simp only [Xf] at hb
   subst hb
   exact if_pos rfl
  ·obtain ⟨j,hj,rfl⟩:=Xm.1 hx
   have hj':j < len:=List.mem_range.1 hj
   have hm:j*i.size+i.size≤len*i.size:=by rw [← Uj];exact XF _ hj'
   simp [hcl',hsz]
   omega
  ·refine h5.2.1 y ?_
   rw [← hfl]
   exact Td.2 ⟨x,hx,hy⟩
  ·rw [hfl] at hy
   exact h5.2.2 j y u hy hu
 rw [hel] at key
 have hw2:=hsim.world hstep fun _ hs=>hs.elim
 refine Zs (v:=.slice (Xa ⟨w.heap.size,0,Xe⟩) len len) (w':=w.alloc (.cells us'.toArray e)) (by simp only [execOp,ho,Sem.run_bind,hb,Result.andThen_ok,Sem.run_pure]) (hn _ _ (Z3 hw2 (by rw [hc];exact key) (fun b hb=>?_) (fun _=>.cells fun b hb=>by cases hb;exact ⟨_,_,_,JW w _ e⟩) fun _ hd=>by rw [hc,ZT hnm] at hd;cases hd))
 simp only [Xf] at hb
 subst hb
 exact ⟨.inr hsim.frm.size,fun i j=>Kh hsim i j⟩
theorem Zdt {T':Odr} {P:Program} {o:Oper} {σ:Nat→AV} {cl:Call} {T e:TypeId} {i:TypeInfo} {z:Value} {t:Nat} {y:Operand} {x:Bool} {xs ys:List (List AV)} {us:List (Nat×AV)} {f:Bool} (ho:o.op = .call cl) (hcl:cl.callee = .builtin .append)
  (hargs:cl.args.toList = [.tmp t,y]) (hts:cl.argTypes.toList = [T,T]) (hT:P.underlying T=Xa (.slice e)) (hi:P.info? e=Xa i) (hz:i.zero=Xa z) (hzs:z.cells.size=i.size)
  (ht:σ t = .own x e xs) (hy:Zt P σ y = .slice f i.size ys) (hroom:(xs.length+ys.length)*(i.bytes+1)≤Jc) (hus:(x=Xc∧us = [])∨Yw T' σ t us) (hnm:Zk P e=Xc) :
  Kc T' P o σ (.own x e (xs++ys)) ((t,K8 P x e xs)::us) []:=by
 have hargs':cl.args = #[.tmp t,y]:=by apply XR.1;rw [hargs]
 have hts':cl.argTypes = #[T,T]:=by apply XR.1;rw [hts]
 intro c hc σ' tm w lim X hid hag hTx hsim next Q hn
 have hsz:P.cellsOf e=i.size:=ZI hi
 have hgy:Zt P σ' y=Zt P σ y:=ZJ fun t ht=>hid t (by simp [Zw (o:=o) (x:=y) (by rw [ho];simp [Op.operands,Call.operands,hargs',hcl]) ht])
 have ht':σ' t = .own x e xs:=by rw [hag t (by simp),ht]
 obtain ⟨X1,h1,h2,h3,_⟩:=hsim.freeAll (us:=us) ht' (hus.imp id fun h=>h.all hTx)
 have hyv:Rep w lim (.slice f (P.cellsOf e) ys) (Act.eval ⟨tm,[]⟩ y):=by rw [hsz];exact Yj hc hsim hy hgy
 rw [hc] at h2
 obtain ⟨v',w',lim',ob',r1,r2,r3,r4⟩:=K4 (ty:=o.type) hT hi hz hzs h2 (.of hyv) hroom hnm
 have hw:=h1.world r3 h3
 refine Zs (v:=v') (w':=w') ?_ (hn _ w' ?_)
 ·have hev:Act.eval ⟨tm,[]⟩ (.tmp t)=tm.getD t undef:=rfl
  simp only [execOp,ho,resolve,hcl,hargs',hts',UB,Xk,XL,Sem.run_bind,Sem.run_pure,Result.andThen_ok,invoke,builtin,hev,r1]
 ·rw [hc] at hw
  rw [← hc] at r2
  refine Z3 hw r2 (fun b hb=>?_) (fun _=>.noMap (by rw [hc];exact hnm)) fun _ hd=>by rw [hc,ZT hnm] at hd;cases hd
  rcases r4 with r4 | r4
  ·rw [r4] at hb;exact h3 b hb
  ·rw [r4] at hb
   simp only [Xf] at hb
   subst hb
   exact ⟨.inr hsim.frm.size,fun i j=>Kh h1 i j⟩
theorem Zan {P:Program} {w:World} {lim:Nat→Nat} {x:Bool} {e:TypeId} {v:Value} {s:Nat} (h:Rep w lim (.slice Xb s []) v):ZY P w lim x e [] v Xe:=by
 have key:∀ (y:AV),Rep w lim y v→y = .slice Xb s []→ZY P w lim x e [] v Xe:=by
  intro y hy hye
  cases hy with
  | sliceN => exact .inl ⟨[], World.ownsRow_nil _ 0 e _, rfl, by simp, by simp, by simp, by simp⟩
  | @sliceE f s' a cap hf =>
   injection hye with h1 h2 h3
   have:=hf h1
   subst this
   exact .inr (.inl ⟨rfl,rfl,a,rfl⟩)
  | @sliceC f s' xs b o cap us hs hc hf hle hlim hus hcell hr =>
   injection hye with h1 h2 h3
   subst h3
   have:=hf h1
   simp at this
   subst this
   exact .inr (.inl ⟨rfl,rfl,_,rfl⟩)
  | val _ => cases hye
  | agg _ _ _ => cases hye
  | nest => cases hye
 exact key _ h rfl
theorem ZbH {P:Program} {o:Oper} {σ:Nat→AV} (ex:Bool) {cl:Call} {T e:TypeId} {i:TypeInfo} {z:Value} {x y:Operand} {ys:List (List AV)} {f:Bool} {s:Nat} (ho:o.op = .call cl) (hcl:cl.callee = .builtin .append)
  (hargs:cl.args.toList = [x,y]) (hts:cl.argTypes.toList = [T,T]) (hT:P.underlying T=Xa (.slice e)) (hi:P.info? e=Xa i) (hz:i.zero=Xa z) (hzs:z.cells.size=i.size)
  (hx:Zt P σ x = .slice Xb s []) (hy:Zt P σ y = .slice f i.size ys) (hroom:(([] : List (List AV)).length+ys.length)*(i.bytes+1)≤Jc) (hnm:Zk P e=Xc) :
  JO P o σ (.own ex e ys) [] []:=by
 have hargs':cl.args = #[x,y]:=by apply XR.1;rw [hargs]
 have hts':cl.argTypes = #[T,T]:=by apply XR.1;rw [hts]
 intro c hc σ' tm w lim X hid hag hsim next Q hn
 have hsz:P.cellsOf e=i.size:=ZI hi
 have hgx:Zt P σ' x=Zt P σ x:=ZJ fun t ht=>hid t (by simp [Zw (o:=o) (x:=x) (by rw [ho];simp [Op.operands,Call.operands,hargs',hcl]) ht])
 have hgy:Zt P σ' y=Zt P σ y:=ZJ fun t ht=>hid t (by simp [Zw (o:=o) (x:=y) (by rw [ho];simp [Op.operands,Call.operands,hargs',hcl]) ht])
 have hxv:ZY P w lim ex e [] (Act.eval ⟨tm,[]⟩ x) Xe:=Zan (s:=s) (Yj hc hsim hx hgx)
 have hyv:Rep w lim (.slice f (P.cellsOf e) ys) (Act.eval ⟨tm,[]⟩ y):=by rw [hsz];exact Yj hc hsim hy hgy
 obtain ⟨v',w',lim',ob',r1,r2,r3,r4⟩:=K4 (ty:=o.type) hT hi hz hzs hxv (.of hyv) hroom hnm
 have hw:=hsim.world r3 fun b hb=>by cases hb
 refine Zs (v:=v') (w':=w') ?_ (hn _ w' ?_)
 ·simp only [execOp,ho,resolve,hcl,hargs',hts',UB,Xk,XL,Sem.run_bind,Sem.run_pure,Result.andThen_ok,invoke,builtin,r1]
 ·rw [← hc,X4] at r2
  refine Z3 hw r2 (fun b hb=>?_) (fun _=>.noMap (by rw [hc];exact hnm)) fun _ hd=>by rw [hc,ZT hnm] at hd;cases hd
  rcases r4 with r4 | r4
  ·rw [r4] at hb;cases hb
  ·rw [r4] at hb
   simp only [Xf] at hb
   subst hb
   exact ⟨.inr hsim.frm.size,fun i j=>Kh hsim i j⟩
theorem ZdW {T':Odr} {P:Program} {o:Oper} {σ:Nat→AV} {T:TypeId} {parts:Array (Nat×Operand)} {f t:Nat} {fs:Array Field} {fd:Field} {i:TypeInfo} {z:Value} {zc:List AV} {e:TypeId} {xs:List (List AV)} {us:List (Nat×AV)} (ho:o.op = .build T parts) (hp:parts.toList = [(f,.tmp t)])
  (hT:P.underlying T=Xa (.struct fs)) (hi:P.info? T=Xa i) (hz:i.zero=Xa z) (hzc:Za8 z.cells.toList=Xa zc) (hall:(fs.toList.all fun f=>(P.info? f.type).isSome)=Xb) (hfd:fs[f]? = Xa fd)
  (h1:P.cellsOf fd.type=1) (hoff:fd.offset < zc.length) (ht:σ t = .own Xb e xs) (hus:Yw T' σ t us) :
  Kc T' P o σ (.aggo (zc.set fd.offset (.own Xb e xs))) ((t,K8 P Xb e xs)::us) []:=by
 have hp':parts = #[(f,.tmp t)]:=by apply XR.1;rw [hp]
 intro c hc σ' tm w lim X hid hag hTx hsim next Q hn
 have ht':σ' t = .own Xb e xs:=by rw [hag t (by simp),ht]
 obtain ⟨X1,k1,k2,k3,k4⟩:=hsim.freeAll (us:=us) ht' (.inr (hus.all hTx))
 rw [hc] at k1 k2
 have hcell:(tm.getD t undef).cells = #[tm.getD t undef]:=(ZY.cells1 k2).1
 have hzr:=Kl (w:=w) (lim:=lim) hzc
 have hzl:fd.offset < z.cells.toList.length:=by rw [← hzr.1];exact hoff
 have hzip:=Ze2 fd.offset [tm.getD t undef] z.cells.toList.toArray (by have:=hzl;simp at this ⊢; omega)
 simp only [XN,Up,XM] at hzip
 have hrun:(execOp (Act.eval ⟨tm,[]⟩) o).run P w = .ok (.value (.agg (z.cells.toList.set fd.offset (tm.getD t undef)).toArray)) w:=by
  have hpl:(fun (i:Nat)=>(fs.map fun (f:Field)=>(f.offset,P.cellsOf f.type))[i]?)=fun (i:Nat)=>(fs[i]?).map fun (f:Field)=>(f.offset,P.cellsOf f.type):=by
   funext i;simp
  have hb:(Instr.build T (parts.map fun p=>(p.1,Act.eval ⟨tm,[]⟩ p.2))).run P w = .ok (.agg (z.cells.toList.set fd.offset (tm.getD t undef)).toArray) w:=by
   simp only [Instr.build,Sem.run_bind,zeroValue,typeInfo,run_program,hi,hz,Result.andThen_ok,Sem.run_pure,run_underlying hT]
   have hpq:=ZeF (P:=P) w fs hall
   rw [hpq]
   simp only [Result.andThen_ok]
   rw [hpl,hp']
   have hev:Act.eval ⟨tm,[]⟩ (.tmp t)=tm.getD t undef:=rfl
   have hsz:¬ (z.cells.size < fd.offset+1):=by
    have:z.cells.toList.length=z.cells.size:=by simp
    omega
   simp only [UB,Xk,XL,hev,Instr.fill,hfd,Xv,h1,hcell]
   rw [if_neg (by simp;omega)]
   have h2:z.cells.toList.take fd.offset++[tm.getD t undef]++z.cells.toList.drop (fd.offset+1)=z.cells.toList.set fd.offset (tm.getD t undef):=by
    rw [TP,if_pos hzl];simp
   rw [UE] at hzip
   rw [hzip,h2]
   rfl
  simp only [execOp,ho,Sem.run_bind,hb,Result.andThen_ok,Sem.run_pure]
 refine Zs hrun (hn _ w ?_)
 rw [← hc] at k1 k2
 have hlenz:(z.cells.toList.set fd.offset (tm.getD t undef)).length=(zc.set fd.offset (.own Xb e xs)).length:=by rw [Ud,Ud,hzr.1]
 cases hdst:o.dst with
 | none => rw [hc] at k1; exact ⟨lim, X1, by rw [← hc] at k1 ⊢; exact k1⟩
 | some d =>
  intro hd hm
  rw [← hc]
  refine ⟨lim,_,k1.putRow (hns:=fun k e1 xs1 b m1 m2 m3=>by
   split at m3
   ·rename_i hk
    subst hk
    have hx1:(e1,xs1)=(e,xs):=by
     simp only [Z5] at m1
     rw [Uq (by simpa using hoff)] at m1
     simpa using m1.symm
    cases hx1
    rw [k4 _ (XY hsim.ntN (XX _ _))]
    exact hsim.nst t 0 _ _ b (by rw [ht'];rfl) m2 m3
   ·cases m3) (fun k=>if k=fd.offset+1 then X t 0 else Xe) (ZU.refl w lim (fun _=>False)) (fun _ hs=>hs.elim) hd (tm':=tm.setIfInBounds d (.agg (z.cells.toList.set fd.offset (tm.getD t undef)).toArray)) (by simp) (fun i hi=>ZL tm d i _ hi)
   (.inl (by rw [hc];exact (ZH hm).1)) (fun i q hi hr=>(k1.noRefs (by rw [hc];exact (ZH hm).none) i q hi hr).elim) ?_ (fun k b hk=>?_) (fun k k' b hk hk'=>?_)⟩
  ·rw [JF tm d _ (by rw [hsim.size];exact hd)]
   refine ⟨_,rfl,hlenz,⟨fun x hx=>?_,fun u hu=>?_⟩,fun j x u hx hu=>?_⟩
   ·rcases Ue hx with hx | hx
    ·exact .inl (hzr.2.1 x hx)
    ·exact .inr (.inl ⟨_,_,_,hx⟩)
   ·rcases Ue hu with hu | rfl
    ·obtain ⟨j,hj⟩:=XU.1 hu
     have hlt:j < zc.length:=by rw [hzr.1];exact (Xn.1 hj).1
     exact (hzr.2.2 j _ u (Xq hlt) hj).oneCell (hzr.2.1 _ (Xy hlt))
    ·exact (ZY.cells1 k2).2
   ·rw [Zo]
    by_cases hj:j=fd.offset
    ·subst hj
     rw [Uq hoff] at hx
     rw [Uq hzl] at hu
     simp only [Xf] at hx hu
     subst hx
     subst hu
     rw [if_pos rfl]
     exact k2
    ·rw [Ur (fun h=>hj h.symm)] at hx hu
     rw [if_neg (by omega)]
     have hrj:=hzr.2.2 j x u hx hu
     have hxc:=hzr.2.1 x (Xj hx)
     cases x<;>simp [AV.isCell] at hxc<;>exact hrj
  ·split at hk
   ·obtain ⟨m1,m2⟩:=k3 b hk
    exact ⟨(hsim.ours t 0 b hk).1,m1,fun i j _=>m2 i j⟩
   ·cases hk
  ·split at hk<;>split at hk'
   ·omega
   ·cases hk'
   ·cases hk
   ·cases hk
theorem ZcU {P:Program} {o:Oper} {σ:Nat→AV} {T:TypeId} {a:Operand} {t d off:Nat} {cs vc:List AV} (ho:o.op = .store T a (.tmp t)) (ha:Zt P σ a = .ptr d off) (hd:σ d = .box cs) (ht:σ t = .aggo vc)
  (hn:vc.length=P.cellsOf T) (h0:P.cellsOf T≠0) (hfit:off+P.cellsOf T≤cs.length) (hnr:Zbx ((cs.drop off).take (P.cellsOf T))) :
  JO P o σ .dead [(t,.dead),(d,.box (cs.take off++vc++cs.drop (off+P.cellsOf T)))] [d]:=by
 intro c hc σ' tm w lim X hid hag hsim next Q hnx
 have hga:Zt P σ' a=Zt P σ a:=ZJ fun t ht=>hid t (by simp [Zw (o:=o) (x:=a) (by rw [ho];simp [Op.operands]) ht])
 have hd':σ' d = .box cs:=by rw [hag d (by simp),hd]
 have ht':σ' t = .aggo vc:=by rw [hag t (by simp),ht]
 have hdt:d≠t:=fun h=>by rw [h,ht'] at hd';cases hd'
 have hva:=Yj hc hsim ha hga
 rw [← hc] at hva
 obtain ⟨b,h1,h2,h3⟩:=KW hsim hd' hva
 obtain ⟨i,hi⟩:=Zy h0
 have hrt:=hsim.rel t
 rw [ht'] at hrt
 obtain ⟨us,u1,u2,u3,u4⟩:=hrt
 have htn:t < c.nt:=JJ hsim (by rw [ht'];exact fun h=>by cases h) (by rw [ht'];rfl)
 have k1:Sim c (upd σ' t .dead) tm w lim (Ke X t Jx):=hsim.weaken (k:=0) htn (fun cs h=>by rw [ht'] at h;cases h) (hsim.noRefs fun k=>by rw [ht'];rfl) rfl (fun i q hq=>by rcases hq with hq | ⟨_,hq⟩ <;> cases hq) trivial
 have hd1:upd σ' t .dead d = .box cs:=by rw [Zf _ _ hdt,hd']
 obtain ⟨b0,arr,ty,g1,g2,g3,g4,g5,g6,g7⟩:=h3
 have hb0:b0=b:=by rw [g1] at h1;exact Xp h1
 subst hb0
 have hset:=k1.setCells (off:=off) (vc:=vc) (us:=us) (b:=b0) (fun j=>if j < vc.length then X t (j+1) else Xe) hd1 (by rw [Zj X Jx hdt];exact g1) (by rw [hn];exact hfit) u2.symm u3.1 (fun j x u hx hu=>?_) g3
  (fun k q1 q2 i hi hr=>Zdz k1 hd1 (by rw [← hn] at hnr;exact hnr) q1 q2 hr) (fun j b' hb'=>?_) (hnw:=fun j e1 xs1 b' m1 m2 m3=>?_)
 ·refine JU (w':=w.setRow b0 (arr.toList.take off++us++arr.toList.drop (off+us.length)).toArray) ?_ (hnx undef _ ?_)
  ·have hev:Act.eval ⟨tm,[]⟩ (.tmp t) = .agg us.toArray:=u1
   have hst:=Yr (P:=P) (T:=T) (w:=w) (b:=b0) (off:=off) (v:=.agg us.toArray) (us:=us) hi rfl (by rw [u2,hn]) g3 (by rw [u2,hn,g4];exact hfit) (fun u hu=>by
    exact u3.2 u hu)
   simp only [execOp,ho,h2,hev,Sem.run_bind,hst,Result.andThen_ok,Sem.run_pure]
  ·rw [hn] at hset
   exact ZE hset rfl (k:=0) trivial
 ·have hlt:j < vc.length:=(Xn.1 hx).1
  show J9 c.P w lim (if j < vc.length then X t (j+1) else Xe) x u
  rw [if_pos hlt]
  exact u4 j x u hx hu
 ·have hb2:(if j < vc.length then X t (j+1) else Xe)=Xa b':=hb'
  split at hb2
  ·rename_i hlt
   obtain ⟨o1,o2⟩:=hsim.ours t (j+1) b' hb2
   refine ⟨hlt,o2,o1,fun i k hik=>?_,fun i' hi'=>?_⟩
   ·by_cases hit:i=t
    ·subst hit;rw [Zo] at hik;cases hik
    ·rw [Zj X Jx hit] at hik
     exact hit (hsim.dist i k t (j+1) b' hik hb2).1
   ·have hi2:(if i' < vc.length then X t (i'+1) else Xe)=Xa b':=hi'
    split at hi2
    ·have:=(hsim.dist t (j+1) t (i'+1) b' hb2 hi2).2
     omega
    ·cases hi2
  ·cases hb2
 ·have h5:(if j < vc.length then X t (j+1) else Xe)=Xa b':=m3
  split at h5
  ·have:=hsim.ntN
   rw [Zj X Jx (show ngN+b'≠t by omega)]
   exact hsim.nst t (j+1) e1 xs1 b' (by rw [ht'];simp only [Z5,m1]) m2 h5
  ·cases h5
def ZW (l:List AV):Nat→AV:=fun i=>(l[i]?).getD .dead
def Zmf (X:Nat→Nat→Option Nat):Prop:=∀ d k d' k' b,X d k=Xa b→X d' k'=Xa b→d=d'∧k=k'
def Callable (P : Program) (f : FuncId) : Prop := ∃ fn, P.funcs[f]? = Xa fn ∧ (fn.name == "runtime.NumGoroutine") = Xc ∧ fn.body.isNone = Xc
def ZaR (n:Nat) (cargs:List Value) (v:Value) (i:Nat):Value:=if i=n then v else cargs.getD i undef
def WP (P:Program) (aZ:List AV):Prop:=∀ i k e xs,Z5 (ZW aZ i) k=Xa (e,xs)→Zg P e=Xc
def ZsE (P:Program) (w:World) (lim:Nat→Nat) (X:Nat→Nat→Option Nat) (res:AV) (n:Nat):Prop:=
 ∀ k e xs b,Z5 res k=Xa (e,xs)→Zg P e=Xb→X n k=Xa b→VK P w lim e xs b (X (ngN+b))
def J0 (P:Program) (f:FuncId) (args:List AV) (res:AV) (outs:List AV):Prop:=
 Callable P f∧args.length < ngN∧∀ (w:World) (lim:Nat→Nat) (X:Nat→Nat→Option Nat) (cargs:List Value),cargs.length+args.countP AV.isG≤args.length→
  (∀ i,ZZ P w lim X (ZW args) i (ZW args i) (cargs.getD i undef))→Zmf X→(∀ i k b,X i k=Xa b→b < w.heap.size)→(∀ i,args.length≤i→∀ k,X i k=Xe)→
  Calls P f cargs.toArray w fun e w'=>∃ v lim' X',e = .returned v∧ZU w lim w' lim' (fun b=>∃ i k,X i k=Xa b)∧outs.length=args.length∧
   (∀ i,ZZ P w' lim' X' (ZW (outs++[res])) i (ZW (outs++[res]) i) (ZaR args.length cargs v i))∧Zmf X'∧
   (∀ i k b,X' i k=Xa b→b < w'.heap.size∧((∃ i k,X i k=Xa b)∨w.heap.size≤b))∧(∀ i,(ZW (outs++[res]) i).isG=Xb→(ZW args i).isG=Xb∧X' i 0=X i 0)∧WP P outs∧ZsE P w' lim' X' res args.length
def WV (x:AV):Bool:=match x with | .val _=>Xb | _=>Xc
def ZdO (x:AV):Bool:=
 match x with
 | .val _ => Xb
 | .dead => Xb
 | .agg cs => cs.all WV
 | .box cs => cs.all WV
 | .gbox cs => cs.all WV
 | .tuple vs => vs.all fun v => match v with | .agg cs => cs.all WV | v => WV v
 | _ => Xc
def VX (lim:Nat→Nat) (b0 N:Nat):Nat→Nat:=fun b=>if b=b0 then N else lim b
theorem Zb1 {w w':World} {lim lim':Nat→Nat} {x:AV} {v:Value} (hx:WV x=Xb) (h:Rep w lim x v):Rep w' lim' x v:=by
 cases x<;>simp [WV] at hx
 cases h with
 | val h => exact .val h
theorem Zix {w w':World} {lim lim':Nat→Nat} {cs:List AV} {v:Value} (hx:cs.all WV=Xb) (h:Rep w lim (.agg cs) v):Rep w' lim' (.agg cs) v:=by
 rw [XC] at hx
 cases h with
 | agg hl hc hr => exact .agg hl hc fun i c v hi hv => Zb1 (hx c (Xj hi)) (hr i c v hi hv)
theorem Zlp {P:Program} {w w':World} {lim lim':Nat→Nat} {ob:Option Nat} {x:AV} {v:Value} (hx:WV x=Xb) (h:J9 P w lim ob x v):J9 P w' lim' ob x v:=by
 cases x<;>simp [WV] at hx
 exact Zb1 rfl (show Rep w lim _ v from h)
theorem Zex {P:Program} {w:World} {lim lim':Nat→Nat} {X:Nat→Option Nat} {cs:List AV} {v:Value} (hx:cs.all WV=Xb) (hl:∀ b,X 0=Xa b→lim' b=lim b) (h:ZN P w lim X cs v):ZN P w lim' X cs v:=by
 rw [XC] at hx
 obtain ⟨b,arr,t,h1,h2,h3,h4,h5,h6,h7⟩:=h
 exact ⟨b,arr,t,h1,h2,h3,h4,(hl b h1).trans h5,h6,fun i c u hc hu=>Zlp (hx c (Xj hc)) (h7 i c u hc hu)⟩
theorem Zlz {P:Program} {w:World} {lim lim':Nat→Nat} {X:Nat→Nat→Option Nat} {σ:Nat→AV} {d:Nat} {x:AV} {v:Value} (hx:ZdO x=Xb) (hl:∀ b,X d 0=Xa b→lim' b=lim b) (h:ZZ P w lim X σ d x v):ZZ P w lim' X σ d x v:=by
 cases x with
 | val u => exact Zb1 rfl (show Rep w lim _ v from h)
 | dead => trivial
 | agg cs => exact Zix hx (show Rep w lim _ v from h)
 | box cs => exact Zex hx hl h
 | gbox cs =>
  obtain ⟨v',h⟩:=h
  exact ⟨v',Zex hx hl h⟩
 | tuple vs =>
  simp only [ZdO,XC] at hx
  obtain ⟨us,h1,h2,h3⟩:=h
  refine ⟨us,h1,h2,fun i c u hc hu=>?_⟩
  have hcx:=hx c (Xj hc)
  have h4:=h3 i c u hc hu
  cases c with
  | agg cs => exact Zix hcx (show Rep w lim _ u from h4)
  | val y => exact Zb1 rfl (show Rep w lim _ u from h4)
  | _ => cases hcx
 | _ => cases hx
theorem Zdv {P:Program} {w:World} {lim:Nat→Nat} {e:TypeId} {xs:List (List AV)} {v:Value} {b0:Nat} (h:ZY P w lim Xb e xs v (Xa b0)) (hnm:Zk P e=Xc) (hext:Ext w lim w (VX lim b0 (xs.length*P.cellsOf e))) :
  ZY P w (VX lim b0 (xs.length*P.cellsOf e)) Xc e xs v (Xa b0):=by
 rcases h.noMap hnm with ⟨ws,g1,g2,g3,g4,g5,g6⟩ | ⟨_,h,_⟩
 ·refine .inl ⟨ws,g1,g2,fun b hb=>?_,g4,g5,fun j z u hz hu=>(g6 j z u hz hu).mono hext⟩
  have hbb:b0=b:=Xp hb
  subst hbb
  rw [if_neg (by simp),g1.1]
  exact if_pos rfl
 ·cases h
theorem Zkd {x:AV} (h:ZdO x=Xb) (k:Nat):Z5 x k=Xe:=by
 have key:∀ (cs:List AV) (k:Nat),(∀ c∈cs,∀ e xs,c≠.own Xb e xs)→(match cs[k]? with | some (.own Xb e xs)=>Xa (e,xs) | _=>Xe)=Xe:=fun cs k hc=>by
  split
  ·rename_i e xs hx
   exact (hc _ (Xj hx) e xs rfl).elim
  ·rfl
 have flat:∀ cs:List AV,cs.all WV=Xb→∀ c∈cs,∀ e xs,c≠.own Xb e xs:=fun cs h c hc e xs he=>by
  rw [XC] at h
  have:=h c hc
  rw [he] at this
  cases this
 cases x with
 | box cs => cases k with | zero => rfl | succ k => exact key cs k (flat cs h)
 | gbox cs => cases k with | zero => rfl | succ k => exact key cs k (flat cs h)
 | tuple vs =>
  cases k with
  | zero => rfl
  | succ k =>
   refine key vs k fun c hc e xs he=>?_
   simp only [ZdO,XC] at h
   have:=h c hc
   rw [he] at this
   cases this
 | val _ => cases k <;> rfl
 | dead => cases k <;> rfl
 | agg _ => cases k <;> rfl
 | _ => cases h
theorem J0.borrow {P:Program} {f:FuncId} {args:List AV} {res:AV} {outs:List AV} (h:J0 P f args res outs) (hf:∀ i,ZdO (ZW (outs++[res]) i)=Xb) {w:World} {lim:Nat→Nat} {X:Nat→Nat→Option Nat} {cargs:List Value} {b0 N:Nat}
  (hb0:b0 < w.heap.size) (hl0:lim b0=0) (hX0:∀ i k,X i k≠Xa b0) (hlen:cargs.length+args.countP AV.isG≤args.length)
  (hrel:∀ i,ZZ P w (VX lim b0 N) X (ZW args) i (ZW args i) (cargs.getD i undef)) (hdist:Zmf X) (hsize:∀ i k b,X i k=Xa b→b < w.heap.size) (hfar:∀ i,args.length≤i→∀ k,X i k=Xe) :
  Calls P f cargs.toArray w fun e w'=>∃ v lim' X',e = .returned v∧ZU w lim w' lim' (fun b=>∃ i k,X i k=Xa b)∧outs.length=args.length∧
   (∀ i,ZZ P w' lim' X' (ZW (outs++[res])) i (ZW (outs++[res]) i) (ZaR args.length cargs v i))∧Zmf X'∧
   (∀ i k b,X' i k=Xa b→b < w'.heap.size∧((∃ i k,X i k=Xa b)∨w.heap.size≤b))∧(∀ i,(ZW (outs++[res]) i).isG=Xb→(ZW args i).isG=Xb∧X' i 0=X i 0)∧WP P outs∧ZsE P w' lim' X' res args.length:=by
 refine (h.2.2 w (VX lim b0 N) X cargs hlen hrel hdist hsize hfar).mono ?_
 rintro e w' ⟨v,lim',X',he,hst,hol,hr,hd,hin,hgh,hnl,hnr⟩
 have hne:∀ i k b,X' i k=Xa b→b≠b0:=by
  intro i k b hb hbb
  subst hbb
  rcases (hin i k b hb).2 with ⟨i',k',h1⟩ | h1
  ·exact hX0 i' k' h1
  ·omega
 have hk0:=hst.blk b0 hb0 fun ⟨i,k,hb⟩=>hX0 i k hb
 refine ⟨v,fun b=>if b=b0 then 0 else lim' b,X',he,⟨hst.os,hst.tape,hst.output,hst.size,hst.frz,fun b hb hn=>?_,fun b hb=>?_⟩,hol,fun i=>?_,hd,hin,hgh,hnl,fun k e1 xs1 b m1=>?_⟩
 ·obtain ⟨h1,h2⟩:=hst.blk b hb hn
  refine ⟨h1,?_⟩
  by_cases hbb:b=b0
  ·subst hbb
   show (if b=b then 0 else lim' b)=lim b
   rw [if_pos rfl,hl0]
  ·show (if b=b0 then 0 else lim' b)=lim b
   rw [if_neg hbb,h2]
   exact if_neg hbb
 ·by_cases hbb:b=b0
  ·subst hbb
   refine ⟨by rw [hl0];exact XZ _,fun o u ho _=>by rw [hl0] at ho;omega⟩
  ·obtain ⟨h1,h2⟩:=hst.ext b hb
   have h3:VX lim b0 N b=lim b:=if_neg hbb
   rw [h3] at h1 h2
   exact ⟨by show lim b≤if b=b0 then 0 else lim' b;rw [if_neg hbb];exact h1,h2⟩
 ·exact Zlz (hf i) (fun b hb=>if_neg (hne i 0 b hb)) (hr i)
 ·have hres:ZW (outs++[res]) outs.length=res:=by simp [ZW]
  have hfl:=hf outs.length
  rw [hres] at hfl
  rw [Zkd hfl] at m1
  cases m1
def mkB (gh:Bool) (cs:List AV):AV:=match gh with | true=>.gbox cs | false=>.box cs
inductive AK where
 | imm (x : AV)
 | own (t : Nat) (x : Bool) (e : TypeId) (xs : List (List AV))
 | box (d : Nat) (fr to : Bool) (cs : List AV)
 | clo (g : FuncId) (ds gs : List Nat)
 | ref (t d q j : Nat)
 | pad
def AK.av:AK→AV
 | .imm x => x
 | .own _ x e xs => .own x e xs
 | .box _ _ to cs => mkB to cs
 | .clo g _ gs => .clo g gs
 | .ref _ _ q j => .mref j q
 | .pad => .dead
def AK.slot:AK→Option Nat
 | .imm _ => Xe
 | .own t _ _ _ => Xa t
 | .box d _ _ _ => Xa d
 | .clo _ _ _ => Xe
 | .ref t _ _ _ => Xa t
 | .pad => Xe
def ZoK (x:AV):Prop:=(∃ v,x = .val v)∨(∃ cs,x = .agg cs)∨∃ f s xs,x = .slice f s xs
inductive Zby where
 | op (x : Operand)
 | cap (d : Nat)
 | ghost
 | pad
def ZuW (P:Program) (σ:Nat→AV) (x:Operand) (y:AV):Prop:=∃ d q e xs,(Zt P σ x = .mref d q∧∀ t e' ys,x = .tmp t→σ t≠.own Xb e' ys)∧Zr (σ d) q=Xa (e,xs)∧(P.cellsOf e≠0∧Zk P e=Xc)∧y = .slice Xc (P.cellsOf e) xs
def AK.ok (P:Program) (σ:Nat→AV):Zby→AK→Prop
 | .op x, .imm y => (Zt P σ x = y ∧ ZoK y) ∨ ZuW P σ x y
 | .op x, .own t b e xs => x = .tmp t ∧ σ t = .own b e xs
 | .op x, .box d fr to cs => Zt P σ x = .ptr d 0 ∧ σ d = .box cs ∧ fr = Xc ∧ to = Xc
 | .op x, .clo g ds _ => Zt P σ x = .clo g ds
 | .op x, .ref t d q _ => x = .tmp t ∧ σ t = .mref d q
 | .cap d', .box d fr to cs => d' = d ∧ σ d = mkB fr cs ∧ to = Xc
 | .ghost, .box d fr to cs => σ d = mkB fr cs ∧ to = Xb
 | .pad, .pad => True
 | _, _ => False
def reB (fr to:Bool) (o:AV):AV:=
 match to,o with
 | true, .gbox cs => mkB fr cs
 | false, .box cs => mkB fr cs
 | _, _ => .dead
theorem Zse (fr to:Bool) (cs:List AV):reB fr to (mkB to cs)=mkB fr cs:=by cases to<;>rfl
theorem Zga (a b:Bool) (cs:List AV) (q:Nat):Zr (mkB a cs) q=Zr (mkB b cs) q:=by cases a<;>cases b<;>cases q<;>rfl
theorem ZeK (gh:Bool) (cs:List AV):(mkB gh cs).isG=gh:=by cases gh<;>rfl
theorem ZrJ (gh:Bool) (cs:List AV):(mkB gh cs).isB=Xb:=by cases gh<;>rfl
def Zdi:List AK→List AV→List (Nat×AV)
 | .own t _ _ _ :: aZ, _ :: os => (t, .gone) :: Zdi aZ os
 | .box d fr to _ :: aZ, o :: os => (d, reB fr to o) :: Zdi aZ os
 | .imm _ :: aZ, _ :: os => Zdi aZ os
 | .clo _ _ _ :: aZ, _ :: os => Zdi aZ os
 | .ref t _ _ _ :: aZ, _ :: os => (t, .dead) :: Zdi aZ os
 | .pad :: aZ, _ :: os => Zdi aZ os
 | _, _ => []
theorem Z9:∀ (aZ:List AK) (os:List AV) (σ:Nat→AV) (d:Nat),(∀ a∈aZ,a.slot≠Xa d)→JC σ (Zdi aZ os) d=σ d
 | [], os, σ, d, _ => by cases os <;> rfl
 | a :: aZ, [], σ, d, _ => by cases a <;> rfl
 | .imm _ :: aZ, o :: os, σ, d, h => Z9 aZ os σ d fun a ha => h a (by simp [ha])
 | .clo _ _ _ :: aZ, o :: os, σ, d, h => Z9 aZ os σ d fun a ha => h a (by simp [ha])
 | .pad :: aZ, o :: os, σ, d, h => Z9 aZ os σ d fun a ha => h a (by simp [ha])
 | .ref t x e xs :: aZ, o :: os, σ, d, h => by
  show JC (upd σ t .dead) (Zdi aZ os) d=σ d
  rw [Z9 aZ os _ d fun a ha=>h a (by simp [ha])]
  exact Zf σ _ fun hd=>h (.ref t x e xs) (by simp) (by rw [hd];rfl)
 | .own t x e xs :: aZ, o :: os, σ, d, h => by
  show JC (upd σ t .gone) (Zdi aZ os) d=σ d
  rw [Z9 aZ os _ d fun a ha=>h a (by simp [ha])]
  exact Zf σ _ fun hd=>h (.own t x e xs) (by simp) (by rw [hd];rfl)
 | .box t fr to cs :: aZ, o :: os, σ, d, h => by
  show JC (upd σ t (reB fr to o)) (Zdi aZ os) d=σ d
  rw [Z9 aZ os _ d fun a ha=>h a (by simp [ha])]
  exact Zf σ _ fun hd=>h (.box t fr to cs) (by simp) (by rw [hd];rfl)
theorem Yq:∀ (aZ:List AK) (os:List AV) (σ:Nat→AV) (i:Nat) (a:AK) (o:AV) (d:Nat),aZ.length=os.length→(aZ.filterMap AK.slot).Nodup→aZ[i]? = Xa a→os[i]? = Xa o→a.slot=Xa d→
  JC σ (Zdi aZ os) d=match a with | .own _ _ _ _=>.gone | .box _ fr to _=>reB fr to o | .ref _ _ _ _=>.dead | _=>o
 | [], os, σ, i, a, o, d, _, _, ha, _, _ => by simp at ha
 | b :: aZ, [], σ, i, a, o, d, hl, _, _, _, _ => by simp at hl
 | b :: aZ, p :: os, σ, 0, a, o, d, hl, hnd, ha, ho, hd => by
  simp only [XK,Xf] at ha ho
  subst ha
  subst ho
  have hno:∀ a∈aZ,a.slot≠Xa d:=by
   intro a ha hs
   rw [UP,hd] at hnd
   exact (X7.1 hnd).1 (Tq.2 ⟨a,ha,hs⟩)
  cases b with
  | imm x => simp [AK.slot] at hd
  | clo g ds gs => simp [AK.slot] at hd
  | pad => simp [AK.slot] at hd
  | own t x e xs =>
   simp only [AK.slot,Xf] at hd
   subst hd
   show JC (upd σ t .gone) (Zdi aZ os) t = .gone
   rw [Z9 aZ os _ t hno,ZC]
  | ref t x e xs =>
   simp only [AK.slot,Xf] at hd
   subst hd
   show JC (upd σ t .dead) (Zdi aZ os) t = .dead
   rw [Z9 aZ os _ t hno,ZC]
  | box t fr to cs =>
   simp only [AK.slot,Xf] at hd
   subst hd
   show JC (upd σ t (reB fr to p)) (Zdi aZ os) t=reB fr to p
   rw [Z9 aZ os _ t hno,ZC]
 | b :: aZ, p :: os, σ, i + 1, a, o, d, hl, hnd, ha, ho, hd => by
  have hl':aZ.length=os.length:=by simpa using hl
  have ha':aZ[i]? = Xa a:=by simpa using ha
  have ho':os[i]? = Xa o:=by simpa using ho
  cases b with
  | imm x => exact Yq aZ os σ i a o d hl' (by simpa [UP, AK.slot] using hnd) ha' ho' hd
  | clo g ds gs => exact Yq aZ os σ i a o d hl' (by simpa [UP, AK.slot] using hnd) ha' ho' hd
  | pad => exact Yq aZ os σ i a o d hl' (by simpa [UP, AK.slot] using hnd) ha' ho' hd
  | ref t x e xs =>
   rw [UP] at hnd
   exact Yq aZ os (upd σ t .dead) i a o d hl' (X7.1 hnd).2 ha' ho' hd
  | own t x e xs =>
   rw [UP] at hnd
   exact Yq aZ os (upd σ t .gone) i a o d hl' (X7.1 hnd).2 ha' ho' hd
  | box t fr to cs =>
   rw [UP] at hnd
   exact Yq aZ os (upd σ t (reB fr to p)) i a o d hl' (X7.1 hnd).2 ha' ho' hd
theorem ZjN:∀ (aZ:List AK),(aZ.filterMap AK.slot).Nodup→∀ (i j:Nat) (a b:AK) (d:Nat),aZ[i]? = Xa a→aZ[j]? = Xa b→a.slot=Xa d→b.slot=Xa d→i=j
 | [], _, i, j, a, b, d, ha, _, _, _ => by simp at ha
 | x :: aZ, hnd, i, j, a, b, d, ha, hb, hda, hdb => by
  have htail:(aZ.filterMap AK.slot).Nodup:=by
   rw [UP] at hnd
   split at hnd
   ·exact hnd
   ·exact (X7.1 hnd).2
  have hhead:∀ d,x.slot=Xa d→∀ a∈aZ,a.slot≠Xa d:=by
   intro d hx a ha hs
   rw [UP,hx] at hnd
   exact (X7.1 hnd).1 (Tq.2 ⟨a,ha,hs⟩)
  cases i with
  | zero =>
   cases j with
   | zero => rfl
   | succ j =>
    simp only [XK,Xf] at ha
    subst ha
    exact (hhead d hda b (Xj (by simpa using hb)) hdb).elim
  | succ i =>
   cases j with
   | zero =>
    simp only [XK,Xf] at hb
    subst hb
    exact (hhead d hdb a (Xj (by simpa using ha)) hda).elim
   | succ j => rw [ZjN aZ htail i j a b d (by simpa using ha) (by simpa using hb) hda hdb]
def Zbj (X:Nat→Nat→Option Nat) (aZ:List AK):Nat→Nat→Option Nat:=fun i k=>
 match aZ[i]? with
 | some (.own t _ _ _) => if k = 0 then X t 0 else Xe
 | some (.box d _ _ _) => X d k
 | _ => Xe
def Zb7:List AK→Nat→Nat→Option (Nat×AK)
 | [], _, _ => Xe
 | a :: aZ, d, n => if a.slot = Xa d then Xa (n, a) else Zb7 aZ d (n + 1)
theorem Zel:∀ (aZ:List AK) (d n m:Nat) (a:AK),Zb7 aZ d n=Xa (m,a)→∃ i,m=n+i∧aZ[i]? = Xa a∧a.slot=Xa d
 | [], _, _, _, _, h => by cases h
 | b :: aZ, d, n, m, a, h => by
  unfold Zb7 at h
  split at h
  ·rename_i hs
   simp only [Xf,Xo] at h
   obtain ⟨rfl,rfl⟩:=h
   exact ⟨0,rfl,rfl,hs⟩
  ·obtain ⟨i,h1,h2,h3⟩:=Zel aZ d (n+1) m a h
   exact ⟨i+1,by omega,by simpa using h2,h3⟩
theorem ZdZ:∀ (aZ:List AK) (d n:Nat),Zb7 aZ d n=Xe→∀ a∈aZ,a.slot≠Xa d
 | [], _, _, _, a, ha => by simp at ha
 | b :: aZ, d, n, h, a, ha => by
  unfold Zb7 at h
  split at h
  ·cases h
  ·rename_i hs
   rcases Xu.1 ha with rfl | ha
   ·exact hs
   ·exact ZdZ aZ d (n+1) h a ha
def XaA (X X':Nat→Nat→Option Nat) (aZ:List AK):Nat→Nat→Option Nat:=fun d k=>
 match Zb7 aZ d 0 with
 | some (i, .box _ _ _ _) => X' i k
 | some _ => Xe
 | none => X d k
def Zg7 (x:AV):Prop:=ZoK x∨(∃ b e xs,x = .own b e xs)∨(∃ vs,x = .tuple vs)∨(∃ cs,x = .aggo cs)∨∃ cs,x = .box cs
theorem ZjU {P:Program} {w:World} {lim:Nat→Nat} {X X':Nat→Nat→Option Nat} {σ σ':Nat→AV} {d d':Nat} {x:AV} {v:Value} (hx:Zg7 x) (h:ZZ P w lim X σ d x v) (hX:X' d'=X d):ZZ P w lim X' σ' d' x v:=by
 rcases hx with (⟨u,rfl⟩ | ⟨cs,rfl⟩ | ⟨f,s,xs,rfl⟩) | ⟨b,e,xs,rfl⟩ | ⟨vs,rfl⟩ | ⟨cs,rfl⟩ | ⟨cs,rfl⟩
 ·exact h
 ·exact h
 ·exact h
 ·show ZY P w lim b e xs v (X' d' 0);rw [hX];exact h
 ·obtain ⟨us,h1,h2,h3⟩:=h
  refine ⟨us,h1,h2,?_⟩
  rw [hX]
  exact h3
 ·obtain ⟨us,h1,h2,h4,h3⟩:=h
  refine ⟨us,h1,h2,h4,?_⟩
  rw [hX]
  exact h3
 ·show ZN P w lim (X' d') cs v;rw [hX];exact h
theorem Zma {P:Program} {w:World} {lim:Nat→Nat} {X X':Nat→Nat→Option Nat} {σ σ':Nat→AV} {d d':Nat} {x:AV} {v:Value} (hx:ZoK x) (h:ZZ P w lim X σ d x v):ZZ P w lim X' σ' d' x v:=by
 rcases hx with ⟨u,rfl⟩ | ⟨cs,rfl⟩ | ⟨f,s,xs,rfl⟩ <;> exact h
def AK.okV (P:Program) (bor:Nat→Nat→Prop) (w:World) (lim:Nat→Nat) (X:Nat→Nat→Option Nat) (σ:Nat→AV) (tm:Array Value) (v:Value):AK→Prop
 | .imm y => (ZZ P w lim X σ 0 y v ∧ ZoK y) ∨ ∃ d q e xs, Zr (σ d) q = Xa (e, xs) ∧ (P.cellsOf e ≠ 0 ∧ Zk P e = Xc) ∧ y = .slice Xc (P.cellsOf e) xs ∧ Zbt P w (X d q) e xs.length v ∧ bor d q
 | .own t x e xs => σ t = .own x e xs ∧ v = tm.getD t undef
 | .box d fr to cs => σ d = mkB fr cs ∧ ∃ b, X d 0 = Xa b ∧ ZN P w lim (X d) cs (.pointer (Xa ⟨b, 0, Xe⟩)) ∧ (fr = Xc → tm.getD d undef = .pointer (Xa ⟨b, 0, Xe⟩)) ∧ (to = Xc → v = .pointer (Xa ⟨b, 0, Xe⟩))
 | .clo g ds _ => ZZ P w lim X σ 0 (.clo g ds) v
 | .ref t d q _ => σ t = .mref d q ∧ v = tm.getD t undef
 | .pad => True
def ZrZ (aks:List AK):Prop:=∀ (i:Nat) (g:FuncId) (ds gs:List Nat),aks[i]? = Xa (.clo g ds gs)→gs.length=ds.length∧
 ∀ (k d j:Nat),ds[k]? = Xa d→gs[k]? = Xa j→∃ fr cs,aks[j]? = Xa (.box d fr Xb cs)
def Zr4 (aks:List AK):Prop:=∀ (i t d q j:Nat),aks[i]? = Xa (.ref t d q j)→∃ fr cs,aks[j]? = Xa (.box d fr Xb cs)
theorem Km {P:Program} {w:World} {lim:Nat→Nat} {X:Nat→Option Nat} {cs:List AV} {v:Value} (h:ZN P w lim X cs v):∃ b,X 0=Xa b∧v = .pointer (Xa ⟨b,0,Xe⟩):=by
 obtain ⟨b,_,_,h1,h2,_⟩:=h
 exact ⟨b,h1,h2⟩
theorem Zkl {c:Ctx} {σ:Nat→AV} {tm:Array Value} {w:World} {lim:Nat→Nat} {X:Nat→Nat→Option Nat} (h:Sim c σ tm w lim X) {d:Nat} {fr:Bool} {cs:List AV} (hd:σ d=mkB fr cs) :
  ∃ b,X d 0=Xa b∧ZN c.P w lim (X d) cs (.pointer (Xa ⟨b,0,Xe⟩))∧(fr=Xc→tm.getD d undef = .pointer (Xa ⟨b,0,Xe⟩)):=by
 have hr:=h.rel d
 rw [hd] at hr
 cases fr with
 | false =>
  have hp:=(show ZN c.P w lim (X d) cs (tm.getD d undef) from hr)
  obtain ⟨b,h1,h2⟩:=Km hp
  exact ⟨b,h1,by rw [← h2];exact hp,fun _=>h2⟩
 | true =>
  obtain ⟨v,hp⟩:=hr
  obtain ⟨b,h1,h2⟩:=Km hp
  exact ⟨b,h1,by rw [← h2];exact hp,fun h=>by cases h⟩
theorem ZmF {T:Odr} (Bd Bq:Nat) (bp:List Nat) {P:Program} {o:Oper} {σ:Nat→AV} {cl:Call} {f:FuncId} {ds:List Nat} {tail:List Zby} {aks:List AK} {res:AV} {outs:List AV} (ho:o.op = .call cl)
  (hcl:(cl.callee = .value (.func f)∧ds = [])∨∃ t,cl.callee = .value (.tmp t)∧σ t = .clo f ds)
  (hlen:(cl.args.toList.map Zby.op++ds.map Zby.cap++tail).length=aks.length) (hargs:∀ (i:Nat) (x:Zby) (a:AK),(cl.args.toList.map Zby.op++ds.map Zby.cap++tail)[i]? = Xa x→aks[i]? = Xa a→a.ok P σ x)
  (htail:∀ x∈tail,x = .pad∨x = .ghost) (hcnt:cl.args.toList.length+ds.length+(aks.map AK.av).countP AV.isG≤aks.length) (hclo:ZrZ aks) (hrf:Zr4 aks) (hnd:(aks.filterMap AK.slot).Nodup)
  (hol:outs.length=aks.length) (hout:∀ (i d:Nat) (fr to:Bool) (cs:List AV) (y:AV),aks[i]? = Xa (.box d fr to cs)→outs[i]? = Xa y→∃ cs',y=mkB to cs') (hres:Zg7 res) (hrm:∀ e xs,res = .own Xb e xs→Mv P e xs)
  (hex:∀ (i t:Nat) (e:TypeId) (xs:List (List AV)),aks[i]? = Xa (.own t Xb e xs)→Yw T σ t [])
  (hbx:∀ (i d:Nat) (fr to:Bool) (cs:List AV),aks[i]? = Xa (.box d fr to cs)→Zbx cs∨Yw T σ d []∨∀ σ',T.rel σ σ'→∀ i k,Jl (σ' i) d k→∃ a∈aks,a.slot=Xa i)
  (hB:∀ (i:Nat) (x:Operand),cl.args.toList[i]? = Xa x→(∃ z,aks[i]? = Xa (.imm z))→∀ d q,Zt P σ x = .mref d q→(∀ t e' ys,x = .tmp t→σ t≠.own Xb e' ys)→d=Bd∧q=Bq∧Bd∈bp∧(∀ a∈aks,a.slot≠Xa Bd)∧∀ i,ZdO (ZW (outs++[res]) i)=Xb)
  (hcall:J0 P f (aks.map AK.av) res outs):Kc T P o σ res (Zdi aks outs) (aks.filterMap AK.slot++bp):=by
 intro c hc σ' tm w lim X hid hag hT hsim next Q hn
 subst hc
 obtain ⟨⟨fn,hfn,hname,hbody⟩,hcs,hc2⟩:=hcall
 have hslot:∀ a∈aks,∀ d,a.slot=Xa d→σ' d=σ d:=fun a ha d hd=>hag d (Xs.2 (.inl (Xs.2 (.inl (Tq.2 ⟨a,ha,hd⟩)))))
 have hops:∀ x∈cl.args.toList,x∈o.op.operands:=by
  intro x hx
  rw [ho]
  rcases hcl with ⟨h,_⟩ | ⟨t,h,_⟩ <;> simp only [Op.operands,Call.operands,h]<;>simp [Array.mem_toList_iff.1 hx]
 have hg:∀ x∈cl.args.toList,Zt c.P σ' x=Zt c.P σ x:=fun x hx=>ZJ fun t ht=>hid t (Zw (hops x hx) ht)
 -- the blocks of what the function value has captured
 obtain ⟨bs,hbl,hbs,hcv⟩:∃ bs:List Nat,bs.length=ds.length∧(∀ (i d b:Nat),ds[i]? = Xa d→bs[i]? = Xa b→X d 0=Xa b)∧
   (resolve (Act.eval ⟨tm,[]⟩) cl o.type).run c.P w = .ok { target:=.fn (.func f) (bs.map fun b=>Value.pointer (Xa ⟨b,0,Xe⟩)).toArray,args:=cl.args.map (Act.eval ⟨tm,[]⟩) } w:=by
  rcases hcl with ⟨h,rfl⟩ | ⟨t,h,ht⟩
  ·refine ⟨[],rfl,by simp,?_⟩
   have hev:Act.eval ⟨tm,[]⟩ (.func f) = .func (.func f) #[] #[]:=rfl
   simp [resolve,h,hev,Deferred.ofValue]
  ·have hr:=hsim.rel t
   have htu:σ' t=σ t:=(hid t (Zw (x:=.tmp t) (by rw [ho];simp [Op.operands,Call.operands,h]) rfl)).eq fun cs e=>by rw [ht] at e;cases e
   rw [htu,ht] at hr
   obtain ⟨bs,h1,h2,h3⟩:=hr
   refine ⟨bs,h2,fun i d b hd hb=>(h3 i d b hd hb).1,?_⟩
   have hev:Act.eval ⟨tm,[]⟩ (.tmp t)=tm.getD t undef:=rfl
   simp [resolve,h,hev,h1,Deferred.ofValue]
 obtain ⟨cargs,hcargs⟩:∃ cargs:List Value,cargs=cl.args.toList.map (Act.eval ⟨tm,[]⟩)++bs.map (fun b=>Value.pointer (Xa ⟨b,0,Xe⟩)):=⟨_,rfl⟩
 have hcl2:cargs.length=cl.args.toList.length+ds.length:=by rw [hcargs];simp [hbl]
 have hok:∀ (i:Nat) (a:AK),aks[i]? = Xa a→a.okV c.P (fun d q=>d=Bd∧q=Bq∧(∀ a∈aks,a.slot≠Xa Bd)∧∀ i,ZdO (ZW (outs++[res]) i)=Xb) w lim X σ' tm (cargs.getD i undef):=by
  intro i a ha
  have hlt:i < (cl.args.toList.map Zby.op++ds.map Zby.cap++tail).length:=by rw [hlen];exact (Xn.1 ha).1
  have hsrc:=Xq hlt
  have h:=hargs i _ a hsrc ha
  generalize hx:(cl.args.toList.map Zby.op++ds.map Zby.cap++tail)[i]=x at h hsrc
  have hsl:∀ d,a.slot=Xa d→σ' d=σ d:=fun d hd=>hslot a (Xj ha) d hd
  have hbox:∀ d fr to cs,a = .box d fr to cs→σ d=mkB fr cs→σ' d=mkB fr cs∧∃ b,X d 0=Xa b∧ZN c.P w lim (X d) cs (.pointer (Xa ⟨b,0,Xe⟩))∧(fr=Xc→tm.getD d undef = .pointer (Xa ⟨b,0,Xe⟩)):=by
   intro d fr to cs he h1
   have h3:σ' d=mkB fr cs:=(hsl d (by rw [he];rfl)).trans h1
   exact ⟨h3,Zkl hsim h3⟩
  cases x with
  | op y =>
   -- an operand
   have hi:i < cl.args.toList.length:=by
    rcases XD i cl.args.toList.length with h0 | h0
    ·exact h0
    ·rw [Xw,XB (by simpa using h0)] at hsrc
     rcases Xs.1 (Xj hsrc) with hm | hm
     ·obtain ⟨_,_,e⟩:=Xm.1 hm;cases e
     ·rcases htail _ hm with e | e<;>cases e
   have hy:cl.args.toList[i]? = Xa y:=by
    rw [Xw,XE (by simpa using hi),Xl] at hsrc
    rw [Xq hi] at hsrc ⊢
    simpa using hsrc
   have hv:cargs.getD i undef=Act.eval ⟨tm,[]⟩ y:=by
    rw [hcargs,TQ,XE (by simpa using hi),Xl,hy];rfl
   have hgy:=hg y (Xj hy)
   rw [hv]
   cases a with
   | imm z =>
    have hrl:=(KD hsim y 0).2
    rw [hgy] at hrl
    rcases h with h | ⟨d,q,e,xs,m1,m2,m3,m4⟩
    ·rw [h.1] at hrl
     exact .inl ⟨hrl,h.2⟩
    ·rw [m1.1] at hrl
     obtain ⟨b1,b2,b3,b4,b5⟩:=hB i y hy ⟨z,ha⟩ d q m1.1 m1.2
     subst b1
     have hsd:σ' d=σ d:=hag d (Xs.2 (.inl (Xs.2 (.inr b3))))
     obtain ⟨e',xs',n1,n2⟩:=hrl
     rw [hsd,m2] at n1
     simp only [Xf,Xo] at n1
     obtain ⟨rfl,rfl⟩:=n1
     exact .inr ⟨d,q,e,xs,by rw [hsd];exact m2,m3,m4,n2,rfl,b2,b4,b5⟩
   | own t x e xs =>
    obtain ⟨rfl,ht⟩:=h
    exact ⟨(hsl t rfl).trans ht,rfl⟩
   | box d fr to cs =>
    obtain ⟨h1,h2,rfl,rfl⟩:=h
    obtain ⟨k1,b,k2,k3,k4⟩:=hbox d Xc Xc cs rfl h2
    refine ⟨k1,b,k2,k3,k4,fun _=>?_⟩
    have h4:=(KD hsim y 0).2
    rw [hgy,h1] at h4
    obtain ⟨b',_,m1,_,m3⟩:=h4
    rw [k2] at m1
    cases m1
    exact m3
   | clo g ds gs =>
    have:=(KD hsim y 0).2
    rw [hgy,show Zt c.P σ y = .clo g ds from h] at this
    exact this
   | ref t d q j =>
    obtain ⟨rfl,ht⟩:=h
    exact ⟨(hsl t rfl).trans ht,rfl⟩
   | pad => cases h
  | cap d' =>
   have hi:cl.args.toList.length≤i∧i-cl.args.toList.length < ds.length:=by
    rcases XD i cl.args.toList.length with h0 | h0
    ·rw [Xw,XE (by simpa using h0)] at hsrc
     obtain ⟨_,_,e⟩:=Xm.1 (Xj hsrc);cases e
    ·refine ⟨h0,?_⟩
     rcases XD (i-cl.args.toList.length) ds.length with h1 | h1
     ·exact h1
     ·rw [XB (by rw [Xr,Xi,Xi];omega)] at hsrc
      rcases htail _ (Xj hsrc) with e | e<;>cases e
   have hd:ds[i-cl.args.toList.length]? = Xa d':=by
    rw [Xw,XB (by simpa using hi.1),XE (by simpa using hi.2),Xl,Xi] at hsrc
    rw [Xq hi.2] at hsrc ⊢
    simpa using hsrc
   cases a with
   | box d fr to cs =>
    obtain ⟨rfl,h1,rfl⟩:=h
    obtain ⟨k1,b,k2,k3,k4⟩:=hbox d' fr Xc cs rfl h1
    refine ⟨k1,b,k2,k3,k4,fun _=>?_⟩
    have hb:=Xq (l:=bs) (i:=i-cl.args.toList.length) (by rw [hbl];exact hi.2)
    have hbb:=hbs _ _ _ hd hb
    rw [k2] at hbb
    rw [hcargs,TQ,XB (by simpa using hi.1),Xi,Xl,hb,← Xp hbb]
    rfl
   | imm _ => cases h
   | own _ _ _ => cases h
   | clo _ _ _ => cases h
   | ref _ _ _ _ => cases h
   | pad => cases h
  | ghost =>
   cases a with
   | box d fr to cs =>
    obtain ⟨h1,rfl⟩:=h
    obtain ⟨k1,b,k2,k3,k4⟩:=hbox d fr Xb cs rfl h1
    exact ⟨k1,b,k2,k3,k4,fun h=>by cases h⟩
   | imm _ => cases h
   | own _ _ _ => cases h
   | clo _ _ _ => cases h
   | ref _ _ _ _ => cases h
   | pad => cases h
  | pad =>
   cases a with
   | pad => trivial
   | imm _ => cases h
   | own _ _ _ => cases h
   | clo _ _ _ => cases h
   | ref _ _ _ _ => cases h
   | box _ _ _ _ => cases h
 have hget:∀ (i:Nat) (a:AK),aks[i]? = Xa a→ZW (aks.map AK.av) i=a.av:=fun i a ha=>by simp [ZW,ha]
 -- the arguments as the callee sees them
 have hrel0:∀ i,(∀ z,aks[i]?≠Xa (.imm z))→ZZ c.P w lim (Zbj X aks) (ZW (aks.map AK.av)) i (ZW (aks.map AK.av) i) (cargs.getD i undef):=by
  intro i hni
  cases ha:aks[i]? with
  | none =>
   have:ZW (aks.map AK.av) i = .dead:=by simp [ZW,ha]
   rw [this]
   trivial
  | some a =>
   rw [hget i a ha]
   have h:=hok i a ha
   cases a with
   | imm y => exact (hni y ha).elim
   | own t x e xs =>
    obtain ⟨ht,hv⟩:=h
    have:=hsim.rel t
    rw [ht] at this
    have hX:Zbj X aks i 0=X t 0:=by simp [Zbj,ha]
    show ZY c.P w lim x e xs _ (Zbj X aks i 0)
    rw [hX,hv]
    exact this
   | box d fr to cs =>
    obtain ⟨h1,b,h2,h3,h4,h5⟩:=h
    have hX:Zbj X aks i=X d:=by funext k;simp [Zbj,ha]
    cases to with
    | false =>
     show ZN c.P w lim (Zbj X aks i) cs _
     rw [hX,h5 rfl]
     exact h3
    | true =>
     exact ⟨.pointer (Xa ⟨b,0,Xe⟩),by rw [hX];exact h3⟩
   | clo g es gs =>
    obtain ⟨l1,l2⟩:=hclo i g es gs ha
    obtain ⟨bs',m1,m2,m3⟩:=h
    refine ⟨bs',m1,by rw [m2,l1],fun k j b hj hb=>?_⟩
    have hlt:k < es.length:=by rw [← m2];exact (Xn.1 hb).1
    obtain ⟨fr,cs,hbx⟩:=l2 k _ j (Xq hlt) hj
    have hX:Zbj X aks j 0=X es[k] 0:=by simp [Zbj,hbx]
    exact ⟨by rw [hX];exact (m3 k _ b (Xq hlt) hb).1,by rw [hget j _ hbx];exact ZrJ Xb cs⟩
   | ref t d q j =>
    obtain ⟨ht,hv⟩:=h
    have hr:=hsim.rel t
    rw [ht] at hr
    obtain ⟨e,xs,n1,n2⟩:=hr
    obtain ⟨fr,cs,hb⟩:=hrf i t d q j ha
    have hX:Zbj X aks j q=X d q:=by simp [Zbj,hb]
    rw [(hok j _ hb).1,Zga fr Xb] at n1
    exact ⟨e,xs,by rw [hget j _ hb];exact n1,by rw [hX,hv];exact n2⟩
   | pad => trivial
 have hXof:∀ i k b,Zbj X aks i k=Xa b→∃ a d,aks[i]? = Xa a∧a.slot=Xa d∧X d k=Xa b:=by
  intro i k b h
  unfold Zbj at h
  split at h
  ·rename_i t x e xs ha
   split at h
   ·rename_i hk;subst hk;exact ⟨_,t,ha,rfl,h⟩
   ·cases h
  ·rename_i d fr to cs ha;exact ⟨_,d,ha,rfl,h⟩
  ·cases h
 have hdist:Zmf (Zbj X aks):=by
  intro i k i' k' b h h'
  obtain ⟨a,d,h1,h2,h3⟩:=hXof i k b h
  obtain ⟨a',d',h1',h2',h3'⟩:=hXof i' k' b h'
  obtain ⟨e1,e2⟩:=hsim.dist d k d' k' b h3 h3'
  subst e1
  exact ⟨ZjN aks hnd i i' a a' d h1 h1' h2 h2',e2⟩
 have hsize:∀ i k b,Zbj X aks i k=Xa b→b < w.heap.size:=by
  intro i k b h
  obtain ⟨a,d,h1,h2,h3⟩:=hXof i k b h
  exact (hsim.ours d k b h3).1
 have hxfar:∀ i,(aks.map AK.av).length≤i→∀ k,Zbj X aks i k=Xe:=fun i hi k=>by
  rw [Xi] at hi
  have:aks[i]? = Xe:=Ux hi
  simp only [Zbj,this]
 have hlc:cargs.length+(aks.map AK.av).countP AV.isG≤(aks.map AK.av).length:=by rw [hcl2,Xi];exact hcnt
 have hcalls:Calls c.P f cargs.toArray w fun e w'=>∃ v lim' X',e = .returned v∧ZU w lim w' lim' (fun b=>∃ i k,Zbj X aks i k=Xa b)∧outs.length=(aks.map AK.av).length∧
   (∀ i,ZZ c.P w' lim' X' (ZW (outs++[res])) i (ZW (outs++[res]) i) (ZaR (aks.map AK.av).length cargs v i))∧Zmf X'∧
   (∀ i k b,X' i k=Xa b→b < w'.heap.size∧((∃ i k,Zbj X aks i k=Xa b)∨w.heap.size≤b))∧(∀ i,(ZW (outs++[res]) i).isG=Xb→(ZW (aks.map AK.av) i).isG=Xb∧X' i 0=Zbj X aks i 0)∧WP c.P outs∧ZsE c.P w' lim' X' res (aks.map AK.av).length:=by
  by_cases hbor:∃ e xs b0,Zr (σ' Bd) Bq=Xa (e,xs)∧X Bd Bq=Xa b0∧(∀ a∈aks,a.slot≠Xa Bd)∧(c.P.cellsOf e≠0∧Zk c.P e=Xc)∧∀ i,ZdO (ZW (outs++[res]) i)=Xb
  ·obtain ⟨e,xs,b0,p1,p2,p3,p4,p5⟩:=hbor
   obtain ⟨v0,ho⟩:=J4 hsim p1
   rw [p2] at ho
   obtain ⟨arr,cap,r1,r2,r3,r4,r5,r6,r7,r8,r9⟩:=V1 ho (.inl p4.2)
   have hX0:∀ i k,Zbj X aks i k≠Xa b0:=by
    intro i k hb
    obtain ⟨a,d,q1,q2,q3⟩:=hXof i k b0 hb
    obtain ⟨e1,_⟩:=hsim.dist d k Bd Bq b0 q3 p2
    subst e1
    exact p3 a (Xj q1) q2
   have hext:Ext w lim w (VX lim b0 (xs.length*c.P.cellsOf e)):=by
    intro b _
    refine ⟨?_,fun _ _ _ hu=>hu⟩
    unfold VX
    split
    ·rename_i hbb;rw [hbb,r3];exact XZ _
    ·exact XA _
   refine J0.borrow ⟨⟨fn,hfn,hname,hbody⟩,hcs,hc2⟩ p5 (N:=xs.length*c.P.cellsOf e) (hsim.ours Bd Bq b0 p2).1 r3 hX0 hlc (fun i=>?_) hdist hsize hxfar
   by_cases him:∃ z,aks[i]? = Xa (.imm z)
   ·obtain ⟨z,ha⟩:=him
    rw [hget i _ ha]
    rcases hok i _ ha with h | ⟨d,q,e',xs',n1,n2,n3,n4,n5,n6,_⟩
    ·obtain ⟨h1,h2⟩:=h
     rcases h2 with ⟨u,rfl⟩ | ⟨cs,rfl⟩ | ⟨f,s,xs,rfl⟩ <;> exact Rep.mono hext (show Rep w lim _ _ from h1)
    ·subst n5
     subst n6
     subst n3
     rw [p1] at n1
     simp only [Xf,Xo] at n1
     obtain ⟨rfl,rfl⟩:=n1
     rw [← KE n2.2] at r2 r6
     rcases n4 with ⟨k1,_⟩ | ⟨b,arr',cap',k1,k2,k3,k4⟩ | ⟨k0,_⟩ | ⟨k0,_⟩
     ·rw [p2] at k1;cases k1
     ·rw [p2] at k1
      have hbb:b0=b:=Xp k1
      subst hbb
      rw [r2] at k2
      simp only [Xf,Obj.cells.injEq,and_true] at k2
      subst k2
      have hcap:cap'=cap:=TR (by have:=p4.1;rw [KE n2.2];omega) (k3.symm.trans r6)
      subst hcap
      rw [k4,← r1]
      exact ZY.rep (Zdv ho p4.2 hext) Xc rfl
     ·rw [n2.2] at k0;cases k0
     ·rw [n2.2] at k0;cases k0
   ·exact (hrel0 i fun z hz=>him ⟨z,hz⟩).mono hext (fun k b hb=>⟨rfl,if_neg fun (hbb:b=b0)=>hX0 i k (by rw [← hbb];exact hb)⟩) fun d' k b _ _=>.of rfl
  ·refine hc2 w lim (Zbj X aks) cargs hlc (fun i=>?_) hdist hsize hxfar
   by_cases him:∃ z,aks[i]? = Xa (.imm z)
   ·obtain ⟨z,ha⟩:=him
    rw [hget i _ ha]
    rcases hok i _ ha with h | ⟨d,q,e',xs',n1,n2,n3,n4,n5,n6,n7,n8⟩
    ·exact Zma h.2 h.1
    ·subst n5
     subst n6
     subst n3
     rcases n4 with ⟨_,k2,k3⟩ | ⟨b,arr,cap,k2,_⟩ | ⟨k0,_⟩ | ⟨k0,_⟩
     ·have:xs' = []:=Ub k2
      subst this
      rcases k3 with k3 | ⟨a,k3⟩
      ·show Rep w lim _ _
       rw [k3];exact .sliceN
      ·show Rep w lim _ _
       rw [k3];exact .sliceE fun h=>by cases h
     ·exact (hbor ⟨e',xs',b,n1,k2,n7,n2,n8⟩).elim
     ·rw [n2.2] at k0;cases k0
     ·rw [n2.2] at k0;cases k0
   ·exact hrel0 i fun z hz=>him ⟨z,hz⟩
 have hrun:(execOp (Act.eval ⟨tm,[]⟩) o).run c.P w = .ok (.enter f cargs.toArray) w:=by
  have harr:cl.args.map (Act.eval ⟨tm,[]⟩)++(bs.map fun b=>Value.pointer (Xa ⟨b,0,Xe⟩)).toArray=cargs.toArray:=by
   apply XR.1;rw [hcargs];simp
  simp only [execOp,ho,Sem.run_bind,hcv,Result.andThen_ok,invoke,callFunc,run_program,hfn,hname,hbody]
  rw [harr]
  rfl
 unfold Oper.wp
 rw [hrun,Oper.upon_enter]
 refine hcalls.mono ?_
 rintro e w' ⟨v,lim',X',rfl,hstep,hl',hrel',hdist',hours',hgh',hnl',hnr'⟩
 rw [Xi] at hnr'
 have hal:aks.length < ngN:=by have:=hcs;rwa [Xi] at this
 refine hn v w' ?_
 -- what the slots are behind the call
 have hpass:∀ d,(∃ i a,Zb7 aks d 0=Xa (i,a)∧aks[i]? = Xa a∧a.slot=Xa d)∨(Zb7 aks d 0=Xe∧∀ a∈aks,a.slot≠Xa d):=by
  intro d
  cases hf:Zb7 aks d 0 with
  | none => exact .inr ⟨rfl, ZdZ aks d 0 hf⟩
  | some p =>
   obtain ⟨m,a⟩:=p
   obtain ⟨i,h1,h2,h3⟩:=Zel aks d 0 m a hf
   rw [XM] at h1
   subst h1
   exact .inl ⟨m,a,rfl,h2,h3⟩
 have houtAt:∀ i a,aks[i]? = Xa a→∃ y,outs[i]? = Xa y:=fun i a ha=>⟨_,Xq (by rw [hol];exact (Xn.1 ha).1)⟩
 have hret:∀ i,i < aks.length→ZaR (aks.map AK.av).length cargs v i=cargs.getD i undef:=by
  intro i hi
  unfold ZaR
  rw [if_neg (by rw [Xi];omega)]
 have hboxOut:∀ i d fr to cs,aks[i]? = Xa (.box d fr to cs)→∃ cs' b,outs[i]? = Xa (mkB to cs')∧ZN c.P w' lim' (X' i) cs' (.pointer (Xa ⟨b,0,Xe⟩))∧(fr=Xc→tm.getD d undef = .pointer (Xa ⟨b,0,Xe⟩))∧X' i 0=Xa b∧X d 0=Xa b∧
   JC σ' (Zdi aks outs) d=mkB fr cs':=by
  intro i d fr to cs ha
  obtain ⟨y,hy⟩:=houtAt i _ ha
  obtain ⟨cs',rfl⟩:=hout i d fr to cs y ha hy
  have h1:=hrel' i
  have hlt:i < outs.length:=(Xn.1 hy).1
  have ho1:ZW (outs++[res]) i=mkB to cs':=by
   simp only [ZW]
   rw [XE hlt,hy]
   rfl
  obtain ⟨k1,b,k2,k3,k4,k5⟩:=hok i _ ha
  rw [ho1,hret i (by rw [← hol];exact hlt)] at h1
  have hup:=Yq aks outs σ' i (.box d fr to cs) (mkB to cs') d hol.symm hnd ha hy rfl
  simp only [Zse] at hup
  have hpl:ZN c.P w' lim' (X' i) cs' (.pointer (Xa ⟨b,0,Xe⟩))∧X' i 0=Xa b:=by
   cases to with
   | false =>
    rw [k5 rfl] at h1
    have hp:ZN c.P w' lim' (X' i) cs' (.pointer (Xa ⟨b,0,Xe⟩)):=h1
    obtain ⟨b',m1,m2⟩:=Km hp
    simp only [Value.pointer.injEq,Xf,Addr.mk.injEq,and_true] at m2
    exact ⟨hp,by rw [m1,m2]⟩
   | true =>
    obtain ⟨v',hp⟩:=(show ∃ v',ZN c.P w' lim' (X' i) cs' v' from h1)
    have hgx:=(hgh' i (by rw [ho1];rfl)).2
    have hX:Zbj X aks i 0=X d 0:=by simp [Zbj,ha]
    obtain ⟨b',m1,m2⟩:=Km hp
    rw [hgx,hX,k2] at m1
    cases m1
    exact ⟨by rw [← m2];exact hp,by rw [hgx,hX,k2]⟩
  exact ⟨cs',b,hy,hpl.1,k4,hpl.2,k2,hup⟩
 have hafter:Sim c (JC σ' (Zdi aks outs)) tm w' lim' (XaA X X' aks):=by
  have hSours:∀ b,(∃ i k,Zbj X aks i k=Xa b)→c.A b∨c.w0.heap.size≤b:=by
   rintro b ⟨i,k,h⟩
   obtain ⟨a,d,_,_,h3⟩:=hXof i k b h
   exact (hsim.ours d k b h3).2
  have hXa:∀ d k b,XaA X X' aks d k=Xa b→(∃ i a fr to cs,Zb7 aks d 0=Xa (i,a)∧aks[i]? = Xa (.box d fr to cs)∧X' i k=Xa b)∨(Zb7 aks d 0=Xe∧(∀ a∈aks,a.slot≠Xa d)∧X d k=Xa b):=by
   intro d k b h
   unfold XaA at h
   rcases hpass d with ⟨i,a,h1,h2,h3⟩ | ⟨h1,h2⟩
   ·rw [h1] at h
    cases a with
    | imm y => simp at h
    | own t x e xs => simp at h
    | clo _ _ _ => simp at h
    | ref _ _ _ _ => simp at h
    | pad => simp at h
    | box d' fr to cs =>
     simp only [AK.slot,Xf] at h3
     subst h3
     exact .inl ⟨i,_,fr,to,cs,h1,h2,h⟩
   ·rw [h1] at h
    exact .inr ⟨h1,h2,h⟩
  have hfarA:∀ d,ngN≤d→∀ a∈aks,a.slot≠Xa d:=by
   intro d hd a ha hs
   have h0:=hsim.far d hd
   obtain ⟨j,hj⟩:=XU.1 ha
   have hk:=hok j a hj
   cases a with
   | imm y => simp [AK.slot] at hs
   | clo _ _ _ => simp [AK.slot] at hs
   | pad => simp [AK.slot] at hs
   | ref t x e xs =>
    simp only [AK.slot,Xf] at hs
    subst hs
    rw [hk.1] at h0
    cases h0
   | own t x e xs =>
    simp only [AK.slot,Xf] at hs
    subst hs
    rw [hk.1] at h0
    cases h0
   | box t fr to cs =>
    simp only [AK.slot,Xf] at hs
    subst hs
    rw [hk.1] at h0
    cases fr<;>cases h0
  have hXold:∀ d k b,(∀ a∈aks,a.slot≠Xa d)→X d k=Xa b→¬ ∃ i k,Zbj X aks i k=Xa b:=by
   rintro d k b hno hb ⟨i,k',h⟩
   obtain ⟨a,d',h1,h2,h3⟩:=hXof i k' b h
   obtain ⟨e1,_⟩:=hsim.dist d k d' k' b hb h3
   subst e1
   exact hno a (Xj h1) h2
  -- a box of the caller's stays one
  have hkeep:∀ d' gh cs,σ' d'=mkB gh cs→(∃ cs',JC σ' (Zdi aks outs) d'=mkB gh cs'∧((∀ a∈aks,a.slot≠Xa d')→cs'=cs))∧XaA X X' aks d' 0=X d' 0:=by
   intro d' gh cs hd'
   rcases hpass d' with ⟨i,a,k1,k2,k3⟩ | ⟨k1,k2⟩
   ·cases a with
    | imm y => simp [AK.slot] at k3
    | clo _ _ _ => simp [AK.slot] at k3
    | pad => simp [AK.slot] at k3
    | own t x e xs =>
     simp only [AK.slot,Xf] at k3
     subst k3
     have:=hok i _ k2
     rw [this.1] at hd'
     cases gh<;>cases hd'
    | ref t x e xs =>
     simp only [AK.slot,Xf] at k3
     subst k3
     have:=hok i _ k2
     rw [this.1] at hd'
     cases gh<;>cases hd'
    | box d'' fr to cs'' =>
     simp only [AK.slot,Xf] at k3
     subst k3
     obtain ⟨cs',b,g1,g2,g3,g4,g5,g6⟩:=hboxOut i d'' fr to cs'' k2
     have hkk:=(hok i _ k2).1
     rw [hd'] at hkk
     have hfg:gh=fr:=by have:=congrArg AV.isG hkk;rwa [ZeK,ZeK] at this
     subst hfg
     refine ⟨⟨cs',g6,fun hno=>(hno _ (Xj k2) rfl).elim⟩,?_⟩
     simp only [XaA,k1]
     rw [g4,g5]
   ·exact ⟨⟨cs,by rw [Z9 aks outs σ' d' k2];exact hd',fun _=>rfl⟩,by simp only [XaA,k1]⟩
  have hkb:∀ d' cs,σ' d' = .box cs→(∃ cs',JC σ' (Zdi aks outs) d' = .box cs')∧XaA X X' aks d' 0=X d' 0:=by
   intro d' cs hd'
   obtain ⟨⟨cs',h1,_⟩,h3⟩:=hkeep d' Xc cs hd'
   exact ⟨⟨cs',h1⟩,h3⟩
  -- what is referred to is not handed over
  have href:∀ i d' k,Jl (σ' i) d' k→(∀ a∈aks,a.slot≠Xa i)→∀ a∈aks,a.slot≠Xa d':=by
   intro i d' k hr hni a ha hs
   obtain ⟨p,hp⟩:=Y9 hsim hr
   obtain ⟨j,hj⟩:=XU.1 ha
   have hk:=hok j a hj
   cases a with
   | imm y => simp [AK.slot] at hs
   | clo _ _ _ => simp [AK.slot] at hs
   | pad => simp [AK.slot] at hs
   | ref t x e xs =>
    simp only [AK.slot,Xf] at hs
    subst hs
    rw [hk.1] at hp
    simp [Zr] at hp
   | own t x e xs =>
    simp only [AK.slot,Xf] at hs
    subst hs
    cases x with
    | false => rw [hk.1] at hp; simp [Zr] at hp
    | true =>
     obtain ⟨h1,h2⟩:=(hex j t e xs hj).all hT
     by_cases hit:i=t
     ·subst hit
      rw [hk.1] at hr
      rcases hr with hr | ⟨_,hr⟩ <;> cases hr
     ·have:=h2 i k hit hr
      cases this
   | box t fr to cs =>
    simp only [AK.slot,Xf] at hs
    subst hs
    rw [hk.1,Zga fr Xc] at hp
    rcases hbx j t fr to cs hj with hnr | hdr | hdr
    ·cases k with
     | zero => simp [mkB, Zr] at hp
     | succ k =>
      simp only [mkB,Zr] at hp
      split at hp
      ·rename_i e xs hx
       exact hnr _ (Xj hx) e xs rfl
      ·cases hp
    ·obtain ⟨h1,h2⟩:=hdr.all hT
     by_cases hit:i=t
     ·subst hit
      rw [hk.1] at hr
      cases fr<;>rcases hr with hr | ⟨_,hr⟩ <;> cases hr
     ·have:=h2 i k hit hr
      cases this
    ·obtain ⟨a,ha',hsa⟩:=hdr σ' hT i k hr
     exact hni a ha' hsa
  have hkg:∀ d',(σ' d').isG=Xb→(JC σ' (Zdi aks outs) d').isG=Xb∧XaA X X' aks d' 0=X d' 0:=by
   intro d' hd'
   obtain ⟨cs,hcs⟩:∃ cs,σ' d'=mkB Xb cs:=by
    generalize σ' d'=x at hd'
    cases x<;>simp [AV.isG] at hd'
    exact ⟨_,rfl⟩
   obtain ⟨⟨cs',h1,_⟩,h3⟩:=hkeep d' Xb cs hcs
   exact ⟨by rw [h1];rfl,h3⟩
  refine ⟨fun d=>?_,hsim.size,fun d hd=>?_,fun d hd=>?_,fun d k d' k' b h h'=>?_,fun d k b h=>?_,hsim.frm.step hstep hSours,fun d v hv=>?_,fun d e xs hdo=>?_,fun d b hb=>?_,hsim.ntN,fun d hd=>?_,fun d k e xs b m1 m2 m3=>?_,fun b m b' hb=>?_⟩
  ·rcases hpass d with ⟨i,a,h1,h2,h3⟩ | ⟨h1,h2⟩
   ·cases a with
    | imm y => simp [AK.slot] at h3
    | clo _ _ _ => simp [AK.slot] at h3
    | pad => simp [AK.slot] at h3
    | own t x e xs =>
     simp only [AK.slot,Xf] at h3
     subst h3
     obtain ⟨y,hy⟩:=houtAt i _ h2
     rw [Yq aks outs σ' i (.own t x e xs) y t hol.symm hnd h2 hy rfl]
     trivial
    | ref t x e xs =>
     simp only [AK.slot,Xf] at h3
     subst h3
     obtain ⟨y,hy⟩:=houtAt i _ h2
     rw [Yq aks outs σ' i (.ref t x e xs) y t hol.symm hnd h2 hy rfl]
     trivial
    | box d' fr to cs =>
     simp only [AK.slot,Xf] at h3
     subst h3
     obtain ⟨cs',b,g1,g2,g3,g4,g5,g6⟩:=hboxOut i d' fr to cs h2
     rw [g6]
     have hrow:XaA X X' aks d'=X' i:=by funext k;simp only [XaA,h1]
     cases fr with
     | false =>
      show ZN c.P w' lim' (XaA X X' aks d') cs' _
      rw [hrow,g3 rfl]
      exact g2
     | true => exact ⟨_, by rw [hrow]; exact g2⟩
   ·rw [Z9 aks outs σ' d h2]
    have hm:=(hsim.rel d).mono hstep.ext (fun k b hb=>hstep.blk b (hsim.ours d k b hb).1 (hXold d k b h2 hb)) fun d' k b he hb=>
     .of (hstep.blk b (hsim.ours d' k b hb).1 (hXold d' k b (href d d' k (.inl he) h2) hb)).1
    refine hm.chg (by funext k;simp only [XaA,h1]) hkb hkg fun d' k hr=>?_
    have hno:=href d d' k hr h2
    refine ⟨by rw [Z9 aks outs σ' d' hno];exact KF.refl _ _,?_⟩
    rcases hpass d' with ⟨i,a,_,k2,k3⟩ | ⟨k1,_⟩
    ·exact (hno a (Xj k2) k3).elim
    ·simp only [XaA,k1]
  ·rcases hsim.out d hd with h | h
   ·left
    have hno:∀ a∈aks,a.slot≠Xa d:=by
     intro a ha hs
     obtain ⟨i,hi⟩:=XU.1 ha
     have hok':=hok i a hi
     cases a with
     | imm y => simp [AK.slot] at hs
     | clo _ _ _ => simp [AK.slot] at hs
     | pad => simp [AK.slot] at hs
     | own t x e xs =>
      simp only [AK.slot,Xf] at hs
      subst hs
      rw [hok'.1] at h
      cases h
     | ref t x e xs =>
      simp only [AK.slot,Xf] at hs
      subst hs
      rw [hok'.1] at h
      cases h
     | box t fr to cs =>
      simp only [AK.slot,Xf] at hs
      subst hs
      rw [hok'.1] at h
      cases fr<;>cases h
    rw [Z9 aks outs σ' d hno]
    exact h
   ·exact .inr (hkg d h).1
  ·rcases hpass d with ⟨i,a,h1,h2,h3⟩ | ⟨h1,h2⟩
   ·cases a with
    | imm y => simp [AK.slot] at h3
    | clo _ _ _ => simp [AK.slot] at h3
    | pad => simp [AK.slot] at h3
    | own t x e xs =>
     simp only [AK.slot,Xf] at h3
     subst h3
     obtain ⟨y,hy⟩:=houtAt i _ h2
     rw [Yq aks outs σ' i (.own t x e xs) y t hol.symm hnd h2 hy rfl] at hd
     cases hd
    | ref t x e xs =>
     simp only [AK.slot,Xf] at h3
     subst h3
     obtain ⟨y,hy⟩:=houtAt i _ h2
     rw [Yq aks outs σ' i (.ref t x e xs) y t hol.symm hnd h2 hy rfl] at hd
     cases hd
    | box d' fr to cs =>
     simp only [AK.slot,Xf] at h3
     subst h3
     obtain ⟨cs',b,g1,g2,g3,g4,g5,g6⟩:=hboxOut i d' fr to cs h2
     rw [g6,ZeK] at hd
     exact hsim.ghost d' (by rw [(hok i _ h2).1,ZeK];exact hd)
   ·rw [Z9 aks outs σ' d h2] at hd
    exact hsim.ghost d hd
  ·rcases hXa d k b h with ⟨i,a,fr,to,cs,g1,g2,g3⟩ | ⟨g1,g2,g3⟩ <;> rcases hXa d' k' b h' with ⟨i',a',fr',to',cs',g1',g2',g3'⟩ | ⟨g1',g2',g3'⟩
   ·obtain ⟨e1,e2⟩:=hdist' i k i' k' b g3 g3'
    subst e1
    rw [g2] at g2'
    simp only [Xf,AK.box.injEq] at g2'
    exact ⟨g2'.1,e2⟩
   ·rcases (hours' i k b g3).2 with hS | hS
    ·exact (hXold d' k' b g2' g3' hS).elim
    ·have:=(hsim.ours d' k' b g3').1;omega
   ·rcases (hours' i' k' b g3').2 with hS | hS
    ·exact (hXold d k b g2 g3 hS).elim
    ·have:=(hsim.ours d k b g3).1;omega
   ·exact hsim.dist d k d' k' b g3 g3'
  ·rcases hXa d k b h with ⟨i,a,fr,to,cs,g1,g2,g3⟩ | ⟨g1,g2,g3⟩
   ·refine ⟨(hours' i k b g3).1,?_⟩
    rcases (hours' i k b g3).2 with hS | hS
    ·exact hSours b hS
    ·exact .inr (XY hsim.frm.size hS)
   ·exact ⟨XO (hsim.ours d k b g3).1 hstep.size,(hsim.ours d k b g3).2⟩
  ·obtain ⟨p1,cs,p2⟩:=hsim.pin d v hv
   obtain ⟨⟨cs',h1⟩,_⟩:=hkb d cs p2
   exact ⟨p1,cs',h1⟩
  ·rcases hpass d with ⟨i,a,h1,h2,h3⟩ | ⟨h1,h2⟩
   ·exfalso
    cases a with
    | imm y => simp [AK.slot] at h3
    | clo _ _ _ => simp [AK.slot] at h3
    | pad => simp [AK.slot] at h3
    | own t x e xs =>
     simp only [AK.slot,Xf] at h3
     subst h3
     obtain ⟨y,hy⟩:=houtAt i _ h2
     rw [Yq aks outs σ' i (.own t x e xs) y t hol.symm hnd h2 hy rfl] at hdo
     cases hdo
    | ref t x e xs =>
     simp only [AK.slot,Xf] at h3
     subst h3
     obtain ⟨y,hy⟩:=houtAt i _ h2
     rw [Yq aks outs σ' i (.ref t x e xs) y t hol.symm hnd h2 hy rfl] at hdo
     cases hdo
    | box d' fr to cs =>
     simp only [AK.slot,Xf] at h3
     subst h3
     obtain ⟨cs',b,g1,g2,g3,g4,g5,g6⟩:=hboxOut i d' fr to cs h2
     rw [g6] at hdo
     cases fr<;>cases hdo
   ·rw [Z9 aks outs σ' d h2] at hdo
    rw [show XaA X X' aks d=X d from by funext k;simp only [XaA,h1]]
    exact (hsim.mp d e xs hdo).mono hstep.ext fun k b hb=>hstep.blk b (hsim.ours d k b hb).1 (hXold d k b h2 hb)
  ·obtain ⟨p1,p2⟩:=hsim.gpin d b hb
   obtain ⟨h1,h2⟩:=hkg d p2
   exact ⟨h2.trans p1,h1⟩
  ·rw [Z9 aks outs σ' d (hfarA d hd)]
   exact hsim.far d hd
  ·have hfb:=hfarA (ngN+b) (XX _ _)
   have hXfb:XaA X X' aks (ngN+b)=X (ngN+b):=by
    rcases hpass (ngN+b) with ⟨i,a,g1,g2,g3⟩ | ⟨g1,_⟩
    ·exact (hfb a (Xj g2) g3).elim
    ·funext k;simp only [XaA,g1]
   rcases hpass d with ⟨i,a,h1,h2,h3⟩ | ⟨h1,h2⟩
   ·exfalso
    cases a with
    | imm y => simp [AK.slot] at h3
    | clo _ _ _ => simp [AK.slot] at h3
    | pad => simp [AK.slot] at h3
    | own t x e' xs' =>
     simp only [AK.slot,Xf] at h3
     subst h3
     obtain ⟨y,hy⟩:=houtAt i _ h2
     rw [Yq aks outs σ' i (.own t x e' xs') y t hol.symm hnd h2 hy rfl] at m1
     cases k<;>cases m1
    | ref t x e' xs' =>
     simp only [AK.slot,Xf] at h3
     subst h3
     obtain ⟨y,hy⟩:=houtAt i _ h2
     rw [Yq aks outs σ' i (.ref t x e' xs') y t hol.symm hnd h2 hy rfl] at m1
     cases k<;>cases m1
    | box d' fr to cs =>
     simp only [AK.slot,Xf] at h3
     subst h3
     obtain ⟨cs',b',g1,g2,g3,g4,g5,g6⟩:=hboxOut i d' fr to cs h2
     rw [g6] at m1
     have hno:=hnl' i k e xs (by simp only [ZW,g1];cases fr<;>cases to<;>cases k<;>exact m1)
     rw [hno] at m2
     cases m2
   ·rw [Z9 aks outs σ' d h2] at m1
    rw [show XaA X X' aks d k=X d k from by simp only [XaA,h1]] at m3
    rw [hXfb]
    refine (hsim.nst d k e xs b m1 m2 m3).mono hstep.ext (hstep.blk b (hsim.ours d k b m3).1 (hXold d k b h2 m3)).1 fun j b' hb'=>hstep.blk b' (hsim.ours _ j b' hb').1 (hXold _ j b' hfb hb')
  ·have hfb:=hfarA (ngN+b) (XX _ _)
   rcases hpass (ngN+b) with ⟨i,a,g1,g2,g3⟩ | ⟨g1,_⟩
   ·exact (hfb a (Xj g2) g3).elim
   ·simp only [XaA,g1] at hb
    exact XO (hsim.yfr b m b' hb) hstep.size
 -- the result
 have hresv:ZZ c.P w' lim' X' (ZW (outs++[res])) aks.length res v:=by
  have h1:=hrel' aks.length
  have ho1:ZW (outs++[res]) aks.length=res:=by
   simp only [ZW]
   rw [XB (by omega),hol]
   simp
  have hv:ZaR (aks.map AK.av).length cargs v aks.length=v:=by
   unfold ZaR
   rw [if_pos (by rw [Xi])]
  rw [ho1,hv] at h1
  exact h1
 have hresg:res.isG=Xc:=by
  rcases hres with (⟨u,rfl⟩ | ⟨cs,rfl⟩ | ⟨f,s,xs,rfl⟩) | ⟨b,e,xs,rfl⟩ | ⟨vs,rfl⟩ | ⟨cs,rfl⟩ | ⟨cs,rfl⟩ <;> rfl
 cases hdst:o.dst with
 | none => exact ⟨lim', _, hafter⟩
 | some d =>
  intro hd hm
  have hfree:∀ m k b,aks.length≤m→X' m k=Xa b→∀ i j,XaA X X' aks i j≠Xa b:=by
   intro m k b hml hk i j hij
   unfold XaA at hij
   rcases hpass i with ⟨m',a,h1,h2,h3⟩ | ⟨h1,h2⟩
   ·rw [h1] at hij
    cases a with
    | imm y => simp at hij
    | own t x e xs => simp at hij
    | clo _ _ _ => simp at hij
    | ref _ _ _ _ => simp at hij
    | pad => simp at hij
    | box d fr to cs =>
     obtain ⟨e1,_⟩:=hdist' _ _ _ _ b hk hij
     have:=(Xn.1 h2).1
     omega
   ·rw [h1] at hij
    rcases (hours' _ k b hk).2 with ⟨i',k',hS⟩ | hS
    ·obtain ⟨a,d',g1,g2,g3⟩:=hXof i' k' b hS
     obtain ⟨e1,_⟩:=hsim.dist i j d' k' b hij g3
     subst e1
     exact h2 a (Xj g1) g2
    ·have:=(hsim.ours i j b hij).1;omega
  have hown:∀ m k b,X' m k=Xa b→c.A b∨c.w0.heap.size≤b:=by
   intro m k b hk
   rcases (hours' _ k b hk).2 with ⟨i,k',hS⟩ | hS
   ·obtain ⟨a,d',_,_,h3⟩:=hXof i k' b hS
    exact (hsim.ours d' k' b h3).2
   ·exact .inr (XY hsim.frm.size hS)
  obtain ⟨X2,hX2,hX2f,hX2b,hX2n⟩:∃ X2,Sim c (JC σ' (Zdi aks outs)) tm w' lim' X2∧(∀ d,d < ngN→X2 d=XaA X X' aks d)∧(∀ k b,X' aks.length k=Xa b→X2 (ngN+b)=X' (ngN+b))∧∀ k b,X' aks.length k=Xa b→∀ i j,X2 i j≠Xa b:=by
   classical
   refine ⟨fun d=>if ngN≤d∧∃ k,X' aks.length k=Xa (d-ngN) then X' d else XaA X X' aks d,hafter.graft (fun b=>∃ k,X' aks.length k=Xa b) (fun d hd=>if_neg fun h=>by omega) (fun b hb=>if_neg fun h=>hb (by rw [Tp] at h;exact h.2)) (fun b ⟨k,hb⟩=>⟨(hours' _ k b hb).1,hfree _ k b (XA _) hb⟩) (fun b k b' hb hk=>?_),fun d hd=>if_neg fun h=>by omega,fun k b hb=>if_pos ⟨XX _ _,k,by rw [Tp];exact hb⟩,fun k b hb i j hij=>?_⟩
   ·have hcond:∀ b,(∃ k,X' aks.length k=Xa b)→(if ngN≤ngN+b∧∃ k,X' aks.length k=Xa (ngN+b-ngN) then X' (ngN+b) else XaA X X' aks (ngN+b))=X' (ngN+b):=fun b hb=>if_pos ⟨XX _ _,by rw [Tp];exact hb⟩
    rw [hcond b hb] at hk
    refine ⟨(hours' _ k b' hk).1,hown _ k b' hk,fun d j hdj=>(hfree _ k b' (by omega) hk d j hdj).elim,fun b2 k2 hb2 hk2=>?_⟩
    rw [hcond b2 hb2] at hk2
    obtain ⟨e1,e2⟩:=hdist' _ _ _ _ b' hk2 hk
    exact ⟨by omega,e2⟩
   ·have hij':(if ngN≤i∧∃ k,X' aks.length k=Xa (i-ngN) then X' i else XaA X X' aks i) j=Xa b:=hij
    split at hij'
    ·rename_i hc
     have:=(hdist' _ _ _ _ b hb hij').1
     omega
    ·exact hfree _ k b (XA _) hb i j hij'
  refine ⟨lim',_,hX2.putRow (X' aks.length) (ZU.refl w' lim' (fun _=>False)) (fun _ hs=>hs.elim) hd (tm':=tm.setIfInBounds d v) (by simp) (fun i hi=>ZL tm d i v hi) (.inl (ZH hm).1) (fun i q hi hr=>(hX2.noRefs (ZH hm).none i q hi hr).elim) ?_ (fun k b hk=>⟨(hours' _ k b hk).1,hown _ k b hk,fun i j _=>hX2n k b hk i j⟩) (fun k k' b hk hk'=>(hdist' _ k _ k' b hk hk').2) hresg (fun e xs he=>.mv (hrm e xs he)) (hns:=fun k e xs b m1 m2 m3=>by rw [hX2b k b m3];exact hnr' k e xs b m1 m2 m3)⟩
  rw [JF tm d v (by rw [hsim.size];exact hd)]
  exact ZjU hres hresv (Zo _ d _)
theorem ZeN {P:Program} {o:Oper} {σ:Nat→AV} {f:FuncId} {first captured:Array Operand} {ds:List Nat} (ho:o.op = .makeFunc (.func f) first captured) (hf:first.toList = [])
  (hl:captured.toList.length=ds.length) (hc:∀ (i:Nat) (x:Operand) (d:Nat),(captured.toList)[i]? = Xa x→ds[i]? = Xa d→Zt P σ x = .ptr d 0∧∃ cs,σ d = .box cs):JO P o σ (.clo f ds) [] ds:=by
 have hf':first = #[]:=by apply XR.1;rw [hf]
 refine ZK ds rfl fun c hcP σ' tm w lim X hg hfp hsim=>⟨.func (.func f) #[] (captured.map (Act.eval ⟨tm,[]⟩)),?_,?_⟩
 ·simp [execOp,ho,Instr.makeFunc,hf']
 ·have hb:∀ i:Nat,∃ b:Nat,∀ (x:Operand) (d:Nat),(captured.toList)[i]? = Xa x→ds[i]? = Xa d→Act.eval ⟨tm,[]⟩ x = .pointer (Xa ⟨b,0,Xe⟩)∧X d 0=Xa b∧(σ' d).isB=Xb:=by
   intro i
   cases hx:captured.toList[i]? with
   | none => exact ⟨0, fun x d h => by cases h⟩
   | some x =>
    cases hd:ds[i]? with
    | none => exact ⟨0, fun x d _ h => by cases h⟩
    | some d =>
     obtain ⟨h1,cs,h2⟩:=hc i x d hx hd
     rw [ho] at hg
     have hv:=Yj hcP hsim h1 (hg x (by
      have:=Xj hx
      simp [Op.operands,Array.mem_toList_iff.1 this]))
     obtain ⟨b,cs',m1,m2,m3⟩:=hv
     refine ⟨b,fun y e hy he=>?_⟩
     cases hy
     cases he
     exact ⟨m3,m1,by rw [m2];rfl⟩
  obtain ⟨bf,hbf⟩:=Classical.axiomOfChoice hb
  have hat:∀ i,i < ds.length→∃ x,captured.toList[i]? = Xa x:=fun i hi=>⟨_,Xq (by rw [hl];exact hi)⟩
  refine ⟨(Un ds.length).map bf,?_,by simp,fun i d b hd hb=>?_⟩
  ·have:captured.map (Act.eval ⟨tm,[]⟩)=(((Un ds.length).map bf).map fun b=>Value.pointer (Xa ⟨b,0,Xe⟩)).toArray:=by
    apply XR.1
    rw [Array.toList_map]
    apply UD
    intro i
    rw [Xl,Xl,Xl]
    by_cases hi:i < ds.length
    ·obtain ⟨x,hx⟩:=hat i hi
     rw [hx,List.getElem?_range hi]
     simp only [Xv]
     exact congrArg Xa (hbf i x _ hx (Xq hi)).1
    ·rw [Ux (by rw [hl];omega),Ux (by simp;omega)]
     rfl
   rw [this]
  ·have hi:=(Xn.1 hd).1
   obtain ⟨x,hx⟩:=hat i hi
   rw [Xl,List.getElem?_range hi] at hb
   simp only [Xv,Xf] at hb
   subst hb
   exact ⟨(hbf i x d hx hd).2.1,(hbf i x d hx hd).2.2⟩
def Zp (y:AV) (k:Nat) (b:Bool) (e:TypeId) (xs:List (List AV)):AV:=
 match y,k with
 | .own _ _ _, 0 => .own b e xs
 | .box cs, k + 1 => .box (cs.set k (.own b e xs))
 | y, _ => y
theorem Y0 {w:World} {b:Nat} {cur cs:Array Value} {t:TypeId} (hg:w.heap[b]? = Xa (.cells cur t (0,0))) (hs:cs.size=cur.size) (b':Nat):WW w (w.setRow b cs) b':=by
 by_cases h:b'=b
 ·subst h
  refine ⟨fun arr e h1=>?_,fun es clock h1=>?_⟩
  ·rw [hg] at h1
   simp only [Xf,Obj.cells.injEq,and_true] at h1
   obtain ⟨rfl,rfl⟩:=h1
   exact ⟨cs,setRow_heap w b' cur cs t _ hg,hs⟩
  ·rw [hg] at h1;cases h1
 ·exact .of (setRow_other w b b' cs h)
theorem Sim.setPlace {c:Ctx} {σ:Nat→AV} {tm:Array Value} {w:World} {lim:Nat→Nat} {X:Nat→Nat→Option Nat} (h:Sim c σ tm w lim X) {d k b:Nat} {e:TypeId} {xs xs':List (List AV)} {arr arr':Array Value}
  (hp:Zr (σ d) k=Xa (e,xs)) (hng:(σ d).isG=Xc) (hX:X d k=Xa b) (hheap:w.heap[b]? = Xa (.cells arr e (0,0))) (hsz:arr'.size=arr.size) (hl:xs'.length=xs.length) (h1:∀ x∈xs',x.length=c.P.cellsOf e) (h2:∀ x∈xs',∀ z∈x,z.isCell=Xb)
  (hr:∀ (j:Nat) (z:AV) (u:Value),xs'.flatten[j]? = Xa z→arr'[j]? = Xa u→Rep w lim z u) :
  ∃ X',Sim c (upd σ d (Zp (σ d) k Xb e xs')) tm (w.setRow b arr') lim X':=by
 have hnd:Zg c.P e=Xc:=by
  cases hd:Zg c.P e with
  | false => rfl
  | true =>
   obtain ⟨arr2,h3⟩:=h.deepB (Z4 hp) hd b hX
   rw [hheap] at h3
   simp only [Xf,Obj.cells.injEq,and_true] at h3
   have h8:2097152≤e:=by simp only [Zg,Xx,decide_eq_true_eq] at hd;exact hd.1
   have h9:=h3.2
   rw [bT,if_pos h8] at h9
   exact absurd h9.symm (Nat.ne_of_lt (Nat.sub_lt (XO (by decide) h8) (by decide)))
 have hnew:∀ v,ZY c.P w lim Xb e xs v (Xa b)→ZY c.P (w.setRow b arr') lim Xb e xs' v (Xa b):=by
  intro v ho
  obtain ⟨arr0,cap,g1,g2,g3,g4,g5,g6,g7,g8,g9⟩:=V1 ho (.inr ⟨hnd,_,_,_,hheap⟩)
  rw [hheap] at g2
  simp only [Xf,Obj.cells.injEq,and_true] at g2
  subst g2
  have hstep:=Jp (cs:=arr') hheap g3
  rw [g1,← hl]
  exact Vu (setRow_heap w b arr arr' e _ hheap) g3 (by omega) g5 (by rw [hsz];exact g6) h1 h2 fun j z u hz hu=>(hr j z u hz hu).mono hstep.ext
 have hlim:lim b=0:=by
  obtain ⟨v,ho⟩:=J4 h hp
  rw [hX] at ho
  obtain ⟨_,_,_,_,g3,_⟩:=V1 ho (.inr ⟨hnd,_,_,_,hheap⟩)
  exact g3
 have hstep:=Jp (cs:=arr') hheap hlim
 have hrel:=h.rel d
 rcases ZG hp with ⟨ho,rfl⟩ | ⟨cs,q,ho,rfl,hq⟩ | ⟨cs,q,ho,rfl,hq⟩
 case inr.inr=>rw [ho] at hng;cases hng
 ·have hdn:d < c.nt:=JJ h (by rw [ho];exact fun h=>by cases h) (by rw [ho];rfl)
  rw [ho] at hrel
  refine ⟨_,h.putRow (hmp:=fun e1 xs1 _=>.cells fun b' hb'=>by rw [hX] at hb';cases hb';exact ⟨_,_,_,setRow_heap w b arr arr' e _ hheap⟩) (hns:=fun k e1 xs1 b' m1 m2 m3=>by
   rw [ho] at m1
   cases k with
   | zero =>
    simp only [Zp,Z5,Xf,Xo] at m1
    rw [← m1.1,hnd] at m2
    cases m2
   | succ k => simp [Zp, Z5] at m1) (S := fun b' => b' = b) (X d) hstep (fun b' hb' => ⟨0, by rw [hb']; exact hX⟩) hdn rfl (fun i _ => rfl) (.inl fun cs hcs => by rw [ho] at hcs; cases hcs) (fun i q hi hr => ?_) ?_ (fun k b' hk => ?_) (fun k k' b' hk hk' => (h.dist d k d k' b' hk hk').2) (by rw [ho]; rfl)⟩
  ·refine ⟨fun e' ys hy=>?_,rfl,fun b' _=>Y0 hheap hsz b'⟩
   rw [ho] at hy ⊢
   cases q with
   | succ q => simp [Zr] at hy
   | zero =>
    simp only [Zr,Xf,Xo] at hy
    obtain ⟨rfl,rfl⟩:=hy
    exact ⟨xs',rfl,hl⟩
  ·rw [ho]
   show ZY c.P _ lim Xb e xs' _ (Ke X d (X d) d 0)
   rw [Zo,hX]
   refine hnew _ ?_
   rw [← hX]
   exact hrel
  ·exact ⟨by have:=(h.ours d k b' hk).1;simpa using this,(h.ours d k b' hk).2,fun i j hi hij=>hi (h.dist i j d k b' hij hk).1⟩
 ·have hdn:d < c.nt:=JJ h (by rw [ho];exact fun h=>by cases h) (by rw [ho];rfl)
  rw [ho] at hrel
  obtain ⟨b0,arr0,t0,g1,g2,g3,g4,g5,g6,g7⟩:=(show ZN c.P w lim (X d) cs _ from hrel)
  have hne:b0≠b:=fun e'=>by
   have:=(h.dist d (q+1) d 0 b hX (by rw [← e'];exact g1)).2
   omega
  refine ⟨_,h.putRow (hmp:=fun e1 xs1 he=>by rw [ho] at he;simp [Zp] at he) (hns:=fun k e1 xs1 b' m1 m2 m3=>by
   rw [ho] at m1
   rcases JR m1 with ⟨_,m4⟩ | ⟨m4,m5⟩
   ·injection m4 with _ m4
    rw [← m4,hnd] at m2
    cases m2
   ·have hng:=h.ntN
    refine (h.nst d k e1 xs1 b' (by rw [ho];exact m5) m2 m3).mono hstep.ext (setRow_other w b b' arr' fun e'=>?_) fun j b2 hb2=>hstep.blk b2 (h.ours _ j b2 hb2).1 fun e'=>?_
    ·exact m4 (h.dist d k d (q+1) b' m3 (by rw [e'];exact hX)).2
    ·have:=(h.dist (ngN+b') j d (q+1) b2 hb2 (by rw [e'];exact hX)).1
     omega) (S:=fun b'=>b'=b) (X d) hstep (fun b' hb'=>⟨q+1,by rw [hb'];exact hX⟩) hdn rfl (fun i _=>rfl) (.inr ⟨⟨_,by rw [ho];rfl⟩,rfl,rfl⟩) (fun i q' hi hr=>?_) ?_ (fun k b' hk=>?_) (fun k k' b' hk hk'=>(h.dist d k d k' b' hk hk').2) (by rw [ho];rfl)⟩
  ·refine ⟨fun e' ys hy=>?_,rfl,fun b' _=>Y0 hheap hsz b'⟩
   rw [ho] at hy ⊢
   cases q' with
   | zero => simp [Zr] at hy
   | succ q' =>
    simp only [Zp,Zr] at hy ⊢
    by_cases hqq:q'=q
    ·subst hqq
     rw [hq] at hy
     simp only [Xf,Xo] at hy
     obtain ⟨rfl,rfl⟩:=hy
     rw [Uq (Xn.1 hq).1]
     exact ⟨xs',rfl,hl⟩
    ·rw [Ur (fun h=>hqq h.symm)]
     exact ⟨ys,hy,rfl⟩
  ·rw [ho]
   refine ⟨b0,arr0,t0,by rw [Zo];exact g1,g2,(setRow_other w b b0 arr' hne).trans g3,by rw [Ud];exact g4,g5,fun x hx=>?_,fun i x u hx hu=>?_⟩
   ·rcases Ue hx with hx | hx
    ·exact g6 x hx
    ·exact .inr (.inl ⟨_,_,_,hx⟩)
   ·rw [Zo]
    by_cases hi:i=q
    ·subst hi
     rw [Uq (Xn.1 hq).1] at hx
     simp only [Xf] at hx
     subst hx
     show ZY c.P _ lim Xb e xs' u (X d (i+1))
     rw [hX]
     refine hnew u ?_
     rw [← hX]
     exact g7 i _ u hq hu
    ·rw [Ur (fun h=>hi h.symm)] at hx
     refine (g7 i x u hx hu).mono hstep.ext fun b' hb'=>hstep.blk b' (h.ours d (i+1) b' hb').1 fun e'=>?_
     have:=(h.dist d (i+1) d (q+1) b' hb' (by rw [e'];exact hX)).2
     omega
  ·exact ⟨by have:=(h.ours d k b' hk).1;simpa using this,(h.ours d k b' hk).2,fun i j hi hij=>hi (h.dist i j d k b' hij hk).1⟩
theorem ZmW {P:Program} {o:Oper} {σ:Nat→AV} {T e:TypeId} {t t':Operand} {i:TypeInfo} {z:Value} {zc zc':List AV} {k:IntKind} {m:Int} (x:Bool) (ho:o.op = .makeSlice T t t') (hT:P.underlying T=Xa (.slice e)) (hi:P.info? e=Xa i)
  (hz:i.zero=Xa z) (hzs:z.cells.size=i.size) (hzc:Za8 z.cells.toList=Xa zc) (ht:Zt P σ t = .val (.int k m)) (ht':Zt P σ t' = .val (.int k m)) (h0:0≤m) (hm:m.toNat*(i.bytes+1)≤Jc) (hnm:Zk P e=Xc)
  (hw:zc'.length=zc.length∧∀ (w:World) (lim:Nat→Nat) (us:List Value),YC w lim zc us→YC w lim zc' us) :
  JO P o σ (.own x e (XG m.toNat zc')) [] []:=by
 intro c hc σ' tm w lim X hid hag hsim next Q hn
 have hg:Zt P σ' t=Zt P σ t:=ZJ fun u hu=>hid u (by simp [Zw (o:=o) (x:=t) (by rw [ho];simp [Op.operands]) hu])
 have hg':Zt P σ' t'=Zt P σ t':=ZJ fun u hu=>hid u (by simp [Zw (o:=o) (x:=t') (by rw [ho];simp [Op.operands]) hu])
 have hv:Act.eval ⟨tm,[]⟩ t = .int k m:=Jh hc hsim ht hg
 have hv':Act.eval ⟨tm,[]⟩ t' = .int k m:=Jh hc hsim ht' hg'
 have hsz:P.cellsOf e=i.size:=ZI hi
 have hzr:=hw.2 w lim _ (Kl (w:=w) (lim:=lim) hzc)
 have hzl:z.cells.toList.length=i.size:=by rw [← hzs];simp
 have hb1:m.toNat≤1099511627776:=by
  have:m.toNat*1≤m.toNat*(i.bytes+1):=UW _ (by omega)
  unfold Jc at hm
  omega
 have hb2:(i.bytes:Int)*m≤281474976710656:=by
  have h1:m.toNat*i.bytes≤m.toNat*(i.bytes+1):=UW _ (by omega)
  unfold Jc at hm
  have h2:((m.toNat*i.bytes:Nat):Int)=(i.bytes:Int)*m:=by
   rw [Int.natCast_mul,Int.mul_comm]
   congr 1
   omega
  omega
 have hmx:(1099511627776:Nat)≤maxLen:=by decide
 have hrun:=run_make (P:=P) w T e i z hT hi hz k k m m h0 (Int.le_refl _) hb2 (by omega)
 have hmade:madeCells z.cells (m.toNat*i.size)=((XG m.toNat z.cells.toList).flatten).toArray:=by
  have:=replicate_zero z.cells.toList m.toNat
  rw [hzl,UE] at this
  exact this
 have hrl:=YX hzr m.toNat
 have hx1:∀ x∈XG m.toNat zc',x.length=P.cellsOf e:=by
  intro x hx
  rw [(UG.1 hx).2,hzr.1,hzl,hsz]
 have hstep:=Yu w lim (madeCells z.cells (m.toNat*i.size)) e (if x=Xb then 0 else m.toNat*i.size) (fun _=>False)
 have hx2:∀ x∈XG m.toNat zc',∀ y∈x,y.isCell=Xb:=fun x hx y hy=>by
  rw [(UG.1 hx).2] at hy
  exact hzr.2.1 y hy
 have hx3:∀ (j:Nat) (y:AV) (u:Value),(XG m.toNat zc').flatten[j]? = Xa y→(madeCells z.cells (m.toNat*i.size))[j]? = Xa u→Rep (w.alloc (.cells (madeCells z.cells (m.toNat*i.size)) e)) (fun b=>if b=w.heap.size then (if x=Xb then 0 else m.toNat*i.size) else lim b) y u:=fun j y u hy hu=>(hrl.2.2 j y u hy (by rw [hmade] at hu;simpa using hu)).mono hstep.ext
 have hms:(madeCells z.cells (m.toNat*i.size)).toList.length=m.toNat*i.size:=by rw [UX,size_madeCells]
 have key:ZY P (w.alloc (.cells (madeCells z.cells (m.toNat*i.size)) e)) (fun b=>if b=w.heap.size then (if x=Xb then 0 else m.toNat*i.size) else lim b) x e (XG m.toNat zc') (.slice (Xa ⟨w.heap.size,0,Xe⟩) (XG m.toNat zc').length m.toNat) (Xa w.heap.size):=by
  cases x
  ·refine .inl ⟨(madeCells z.cells (m.toNat*i.size)).toList,⟨by rw [hms,Tk,hsz],.inr ⟨w.heap.size,m.toNat,_,rfl,XZ _,JW w _ e,by simp,by omega,by rw [size_madeCells,hsz],UA (by rw [hms,Tk,hsz];exact XA _)⟩⟩,rfl,fun b hb=>?_,hx1,hx2,fun j y u hy hu=>hx3 j y u hy (by simpa using hu)⟩
   cases hb
   show (if w.heap.size=w.heap.size then (if Xc=Xb then 0 else m.toNat*i.size) else lim w.heap.size)=_
   rw [if_pos rfl,hms]
  ·exact Vu (JW w _ e) (if_pos rfl) (by simp) (by omega) (by rw [size_madeCells,hsz]) hx1 hx2 hx3
 rw [Tk] at key
 have hw2:=hsim.world hstep fun _ hs=>hs.elim
 refine Zs (v:=.slice (Xa ⟨w.heap.size,0,Xe⟩) m.toNat m.toNat) (w':=w.alloc (.cells (madeCells z.cells (m.toNat*i.size)) e)) ?_ (hn _ _ (Z3 hw2 (by rw [hc];exact key) (fun b hb=>?_) (fun _=>.cells fun b hb=>by cases hb;exact ⟨_,_,_,JW w _ e⟩) fun _ hd=>by rw [hc,ZT hnm] at hd;cases hd))
 ·simp only [execOp,ho,hv,hv',Sem.run_bind,hrun,Result.andThen_ok,Sem.run_pure]
 ·simp only [Xf] at hb
  subst hb
  exact ⟨.inr hsim.frm.size,fun i j=>Kh hsim i j⟩
theorem Zcw {c:Ctx} {σ:Nat→AV} {tm:Array Value} {w:World} {lim:Nat→Nat} {X:Nat→Nat→Option Nat} (h:Sim c σ tm w lim X) {d q k:Nat} {e:TypeId} {xs:List (List AV)} {v:Value}
  (hd:Zr (σ d) q=Xa (e,xs)) (hv:ZZ c.P w lim X σ k (.mref d q) v) (hnm:Zk c.P e=Xc∨Zg c.P e=Xb):(xs = []∧(v = .slice Xe 0 0∨∃ a,v = .slice (Xa a) 0 0))∨
   ∃ b arr cap cap',X d q=Xa b∧v = .slice (Xa ⟨b,0,Xe⟩) xs.length cap'∧w.heap[b]? = Xa (.cells arr (bT e) (0,0))∧lim b=0∧xs.length≤cap∧cap≤maxLen∧
   arr.size=cap*c.P.cellsOf (bT e)∧(∀ x∈xs,x.length=c.P.cellsOf (bT e))∧(∀ x∈xs,∀ c∈x,c.isCell=Xb)∧∀ (j:Nat) (c:AV) (u:Value),xs.flatten[j]? = Xa c→arr[j]? = Xa u→Rep w lim c u:=by
 obtain ⟨e',xs',h1,h2⟩:=hv
 rw [hd] at h1
 simp only [Xf,Xo] at h1
 obtain ⟨rfl,rfl⟩:=h1
 have hno:Zk c.P e=Xb→Zg c.P e=Xc→False:=fun h1 h2=>by
  rcases hnm with h3 | h3
  ·rw [h3] at h1;cases h1
  ·rw [h3] at h2;cases h2
 rcases h2 with ⟨_,h2,h3⟩ | ⟨b,arr,cap',h2,h3,h4,h5⟩ | ⟨h2,h3,_⟩ | ⟨h2,h3,_⟩
 ·exact .inl ⟨Ub h2,h3⟩
 ·obtain ⟨u,ho⟩:=J4 h hd
  rw [h2] at ho
  obtain ⟨arr0,cap,g1,g2,g3⟩:=KK ho hnm (by rw [← h2];exact h.deepB (Z4 hd))
  exact .inr ⟨b,arr0,cap,cap',h2,h5,g2,g3⟩
 ·exact (hno h2 h3).elim
 ·exact (hno h2 h3).elim
theorem ZeS {c:Ctx} {σ:Nat→AV} {tm:Array Value} {w:World} {lim:Nat→Nat} {X:Nat→Nat→Option Nat} (h:Sim c σ tm w lim X) {d q k:Nat} {e:TypeId} {xs:List (List AV)} {v:Value}
  (hd:Zr (σ d) q=Xa (e,xs)) (hv:ZZ c.P w lim X σ k (.mref d q) v) (hnm:Zk c.P e=Xc):(xs = []∧(v = .slice Xe 0 0∨∃ a,v = .slice (Xa a) 0 0))∨
   ∃ b arr cap cap',X d q=Xa b∧v = .slice (Xa ⟨b,0,Xe⟩) xs.length cap'∧w.heap[b]? = Xa (.cells arr e (0,0))∧lim b=0∧xs.length≤cap∧cap≤maxLen∧
   arr.size=cap*c.P.cellsOf e∧(∀ x∈xs,x.length=c.P.cellsOf e)∧(∀ x∈xs,∀ c∈x,c.isCell=Xb)∧∀ (j:Nat) (c:AV) (u:Value),xs.flatten[j]? = Xa c→arr[j]? = Xa u→Rep w lim c u:=by
 have:=Zcw h hd hv (.inl hnm)
 rwa [KE hnm] at this
theorem Zcs {P:Program} {o:Oper} {σ:Nat→AV} {T e e':TypeId} {x i:Operand} {d q:Nat} {xs:List (List AV)} {k:IntKind} {z:Int} (ho:o.op = .indexAddr T x i)
  (hT:P.underlying T=Xa (.slice e)) (hs0:P.cellsOf e≠0) (hx:Zt P σ x = .mref d q) (hd:Zr (σ d) q=Xa (e',xs)) (hbe:bT e'=e) (hi:Zt P σ i = .val (.int k z)) (h0:0≤z) (hz:z.toNat < xs.length) (hnm:Zk P e'=Xc∨Zg P e'=Xb) :
  JO P o σ (.eref d q (z.toNat*P.cellsOf e+0)) [] [d]:=by
 refine ZK [d] rfl fun c hc σ' tm w lim X hg hfp hsim=>?_
 rw [ho] at hg
 have hv:=Yj hc hsim hx (hg x (by simp [Op.operands]))
 have hiv:=Jh hc hsim hi (hg i (by simp [Op.operands]))
 have hd':Zr (σ' d) q=Xa (e',xs):=by rw [hfp d (by simp),hd]
 rw [← hc] at hv
 rcases Zcw hsim hd' hv (by rw [hc];exact hnm) with ⟨rfl,_⟩ | ⟨b,arr,cap,cap',g1,g2,g3⟩
 ·simp at hz
 ·obtain ⟨inf,hinf⟩:=Zy hs0
  have hsz:P.cellsOf e=inf.size:=ZI hinf
  refine ⟨.pointer (Xa ⟨b,z.toNat*P.cellsOf e+0,Xe⟩),?_,b,e',xs,hd',g1,.inl ⟨hnm,rfl⟩⟩
  have hb:0≤z∧z < (xs.length:Int):=⟨h0,by omega⟩
  simp [execOp,ho,g2,hiv,Instr.indexAt,asIntOf,run_underlying hT,hb,Zv hinf,Jk]
theorem JV {s:Nat} : ∀ (xs:List (List AV)) (k:Nat),(∀ x∈xs,x.length=s)→(xs.take k).flatten=xs.flatten.take (k*s)
 | [], k, _ => by simp
 | x :: xs, 0, _ => by simp
 | x :: xs, k + 1, h => by
  have hx:x.length=s:=h x (by simp)
  simp only [List.take_succ_cons,Uo]
  rw [JV xs k fun y hy=>h y (by simp [hy]),List.take_append]
  have e1:(k+1)*s-x.length=k*s:=by rw [Uj];omega
  rw [e1,UA (l:=x) (by rw [Uj];omega)]
theorem KQ {s:Nat} : ∀ (xs:List (List AV)) (k:Nat),(∀ x∈xs,x.length=s)→(xs.drop k).flatten=xs.flatten.drop (k*s)
 | [], k, _ => by simp
 | x :: xs, 0, _ => by simp
 | x :: xs, k + 1, h => by
  have hx:x.length=s:=h x (by simp)
  simp only [List.drop_succ_cons,Uo]
  rw [KQ xs k fun y hy=>h y (by simp [hy]),List.drop_append]
  have e1:(k+1)*s-x.length=k*s:=by rw [Uj];omega
  rw [e1,UQ (l:=x) (by rw [Uj];omega)]
  rfl
theorem Jz {s:Nat} {xs:List (List AV)} {i o:Nat} {e:List AV} (h:∀ x∈xs,x.length=s) (hi:i < xs.length) (ho:o+e.length≤s) :
  (Zq xs i o e).flatten=xs.flatten.take (i*s+o)++e++xs.flatten.drop (i*s+o+e.length):=by
 have hx:xs[i].length=s:=h _ (Xy hi)
 have e0:xs=xs.take i++xs[i]::xs.drop (i+1):=by rw [List.getElem_cons_drop,List.take_append_drop]
 have hl:(xs.take i).flatten.length=i*s:=by
  rw [JV xs i h,Xt,Zh xs _ h]
  have:i*s≤xs.length*s:=XF _ (by omega)
  omega
 have e1:Zq xs i o e=xs.take i++setCells xs[i] o e::xs.drop (i+1):=by
  unfold Zq
  rw [List.modify_eq_take_cons_drop hi]
 have e2:=congrArg List.flatten e0
 rw [UF,Uo] at e2
 rw [e1,e2]
 simp only [UF,Uo]
 rw [List.take_append,List.drop_append,hl,UA (l:=(xs.take i).flatten) (by rw [hl];omega),UQ (l:=(xs.take i).flatten) (by rw [hl];omega)]
 have e3:i*s+o-i*s=o:=by omega
 have e4:i*s+o+e.length-i*s=o+e.length:=by omega
 rw [e3,e4,List.take_append_of_le_length (by omega),List.drop_append_of_le_length (by omega)]
 unfold setCells
 simp only [X4,Xw]
theorem Ys {s:Nat} {xs:List (List AV)} {i o:Nat} {e:List AV} (h:∀ x∈xs,x.length=s) (hc:∀ x∈xs,∀ c∈x,c.isCell=Xb) (ho:o+e.length≤s) (he:∀ c∈e,c.isCell=Xb) :
  ∀ x∈Zq xs i o e,x.length=s∧∀ c∈x,c.isCell=Xb:=by
 intro x hx
 obtain ⟨j,hj⟩:=XU.1 hx
 unfold Zq at hj
 rw [U2] at hj
 cases hy:xs[j]? with
 | none => rw [hy] at hj; cases hj
 | some y =>
  rw [hy] at hj
  simp only [Option.map_eq_map,Xv,Xf] at hj
  subst hj
  split
  ·have hm:=Xj hy
   have hl:=h y hm
   refine ⟨by simp [setCells,hl];omega,fun c hcx=>?_⟩
   unfold setCells at hcx
   rcases Xs.1 hcx with hcx | hcx
   ·rcases Xs.1 hcx with hcx | hcx
    ·exact hc y hm c (XP hcx)
    ·exact he c hcx
   ·exact hc y hm c (XS hcx)
  ·have hm:=Xj hy
   exact ⟨h y hm,hc y hm⟩
theorem Ze7 {R:AV→Value→Prop} {zs vs:List AV} {us ws:List Value} {off:Nat} (h:∀ (j:Nat) (z:AV) (u:Value),zs[j]? = Xa z→us[j]? = Xa u→R z u) (h':∀ (j:Nat) (z:AV) (u:Value),vs[j]? = Xa z→ws[j]? = Xa u→R z u)
  (hl:vs.length=ws.length) (h1:off≤zs.length) (h2:off≤us.length) :
  ∀ (j:Nat) (z:AV) (u:Value),(zs.take off++vs++zs.drop (off+vs.length))[j]? = Xa z→(us.take off++ws++us.drop (off+ws.length))[j]? = Xa u→R z u:=by
 intro j z u hz hu
 have l1:(zs.take off).length=off:=by rw [Xt];omega
 have l2:(us.take off).length=off:=by rw [Xt];omega
 rw [Xw] at hz hu
 rcases XD j off with hlt | hge
 ·rw [XE (by omega),List.getElem?_take_of_lt hlt] at hz hu
  exact h j z u hz hu
 ·rw [XB (by omega),l1] at hz
  rw [XB (by omega),l2] at hu
  rcases XD (j-off) vs.length with hlt | hge'
  ·rw [XE hlt] at hz
   rw [XE (by omega)] at hu
   exact h' _ z u hz hu
  ·rw [XB hge',XI] at hz
   rw [XB (by omega),XI] at hu
   rw [← hl] at hu
   exact h _ z u hz hu
theorem Ze5 {c:Ctx} {σ:Nat→AV} {tm:Array Value} {w:World} {lim:Nat→Nat} {X:Nat→Nat→Option Nat} (h:Sim c σ tm w lim X) {d q k p:Nat} {e:TypeId} {xs:List (List AV)} {v:Value}
  (hd:Zr (σ d) q=Xa (e,xs)) (hv:ZZ c.P w lim X σ k (.eref d q p) v) (hnm:Zk c.P e=Xc) :
   ∃ b arr cap,X d q=Xa b∧v = .pointer (Xa ⟨b,p,Xe⟩)∧w.heap[b]? = Xa (.cells arr e (0,0))∧lim b=0∧xs.length≤cap∧cap≤maxLen∧
   arr.size=cap*c.P.cellsOf e∧(∀ x∈xs,x.length=c.P.cellsOf e)∧(∀ x∈xs,∀ c∈x,c.isCell=Xb)∧∀ (j:Nat) (c:AV) (u:Value),xs.flatten[j]? = Xa c→arr[j]? = Xa u→Rep w lim c u:=by
 obtain ⟨b,e',xs',h1,h2,h3⟩:=hv
 rw [hd] at h1
 simp only [Xf,Xo] at h1
 obtain ⟨rfl,rfl⟩:=h1
 obtain ⟨u,ho⟩:=J4 h hd
 rw [h2] at ho
 obtain ⟨arr0,cap,g1,g2,g3⟩:=V1 ho (.inl hnm)
 exact ⟨b,arr0,cap,h2,h3.ptr (.inl hnm),g2,g3⟩
theorem ZiN {w:World} {lim:Nat→Nat} {xs:List (List AV)} {s i off n:Nat} {row:List AV} {arr:Array Value} {cap:Nat} (h1:∀ x∈xs,x.length=s) (h2:∀ x∈xs,∀ c∈x,c.isCell=Xb)
  (h3:∀ (j:Nat) (c:AV) (u:Value),xs.flatten[j]? = Xa c→arr[j]? = Xa u→Rep w lim c u) (h4:arr.size=cap*s) (h5:xs.length≤cap) (hrow:xs[i]? = Xa row) (hfit:off+n≤s) :
  ((arr.toList.drop (i*s+off)).take n).length=n∧((row.drop off).take n).length=n∧(∀ c∈(row.drop off).take n,c.isCell=Xb)∧
   ∀ (j:Nat) (c:AV) (u:Value),((row.drop off).take n)[j]? = Xa c→((arr.toList.drop (i*s+off)).take n)[j]? = Xa u→Rep w lim c u:=by
 have hi:=(Xn.1 hrow).1
 have hrl:=h1 row (Xj hrow)
 have hm:i*s+s≤cap*s:=by
  rw [← Uj];exact XF _ (by omega)
 refine ⟨by simp [h4];omega,by simp [hrl];omega,fun c hc=>h2 row (Xj hrow) c (XS (XP hc)),fun j c u hc hu=>?_⟩
 rw [Xz] at hc hu
 split at hc
 ·rename_i hj
  rw [if_pos hj,XI] at hu
  rw [XI] at hc
  refine h3 (i*s+(off+j)) c u ?_ ?_
  ·rw [JT xs s h1 i row hrow (off+j) (by omega)]
   exact hc
  ·rw [← Uw]
   simpa using hu
 ·cases hc
theorem Zap {P:Program} {o:Oper} {σ:Nat→AV} {T e:TypeId} {a:Operand} {d q i off:Nat} {xs:List (List AV)} {row:List AV} (ho:o.op = .load T a) (hT:Z2 P T=Xa Xb)
  (ha:Zt P σ a = .eref d q (i*P.cellsOf e+off)) (hd:Zr (σ d) q=Xa (e,xs)) (hrow:xs[i]? = Xa row) (hn:off+P.cellsOf T≤P.cellsOf e) (hnm:Zk P e=Xc):JO P o σ (.agg ((row.drop off).take (P.cellsOf T))) [] [d]:=by
 refine ZK [d] rfl fun c hc σ' tm w lim X hg hfp hsim=>?_
 rw [ho] at hg
 have hv:=Yj hc hsim ha (hg a (by simp [Op.operands]))
 have hd':Zr (σ' d) q=Xa (e,xs):=by rw [hfp d (by simp),hd]
 rw [← hc] at hv
 obtain ⟨b,arr,cap,g1,g2,g3,g4,g5,g6,g7,g8,g9,g10⟩:=Ze5 hsim hd' hv (by rw [hc];exact hnm)
 rw [hc] at g2 g7 g8
 obtain ⟨k1,k2,k3,k4⟩:=ZiN (off:=off) (n:=P.cellsOf T) g8 g9 g10 g7 g5 hrow hn
 refine ⟨.agg ((arr.toList.drop (i*P.cellsOf e+off)).take (P.cellsOf T)).toArray,?_,?_⟩
 ·have:=J3 (w:=w) (b:=b) (off:=i*P.cellsOf e+off) hT k1 (fun j u hj=>by
   rw [Zl g3]
   rw [Xz] at hj
   split at hj
   ·simpa using hj
   ·cases hj)
  simp [execOp,ho,g2,this]
 ·exact .agg (by rw [k1,k2]) k3 k4
theorem WG {P:Program} {o:Oper} {σ:Nat→AV} {T e:TypeId} {a:Operand} {d q i off:Nat} {xs:List (List AV)} {row:List AV} {x:AV} (ho:o.op = .load T a) (hT:Z2 P T=Xa Xc)
  (ha:Zt P σ a = .eref d q (i*P.cellsOf e+off)) (hd:Zr (σ d) q=Xa (e,xs)) (hrow:xs[i]? = Xa row) (hn:off+1≤P.cellsOf e) (hx:row[off]? = Xa x) (hnm:Zk P e=Xc):JO P o σ x [] [d]:=by
 intro c hc σ' tm w lim X hid hag hsim next Q hnx
 have hg:Zt P σ' a=Zt P σ a:=ZJ fun t ht=>hid t (by simp [Zw (o:=o) (x:=a) (by rw [ho];simp [Op.operands]) ht])
 have hv:=Yj hc hsim ha hg
 have hd':Zr (σ' d) q=Xa (e,xs):=by rw [hag d (by simp),hd]
 rw [← hc] at hv
 obtain ⟨b,arr,cap,g1,g2,g3,g4,g5,g6,g7,g8,g9,g10⟩:=Ze5 hsim hd' hv (by rw [hc];exact hnm)
 rw [hc] at g2 g7 g8
 obtain ⟨k1,k2,k3,k4⟩:=ZiN (off:=off) (n:=1) g8 g9 g10 g7 g5 hrow hn
 have e1:(row.drop off).take 1 = [x]:=by rw [List.take_one,List.head?_drop,hx];rfl
 obtain ⟨u,hu⟩:∃ u,(arr.toList.drop (i*P.cellsOf e+off)).take 1 = [u]:=U9.1 k1
 rw [e1] at k3 k4
 rw [hu] at k4
 have hcell:w.cell? ⟨b,i*P.cellsOf e+off,Xe⟩=Xa u:=by
  rw [Zl g3]
  have h1:((arr.toList.drop (i*P.cellsOf e+off)).take 1)[0]? = Xa u:=by rw [hu];rfl
  rw [Xz,if_pos (by omega),XI] at h1
  simpa using h1
 obtain ⟨p1,p2⟩:=K1 (P:=P) (X:=X) (σ:=σ') (k:=0) (k3 x (by simp)) (k4 0 x u rfl rfl)
 refine Zs (v:=u) ?_ (hnx u w (ZE hsim p1 (k:=0) (by rw [hc];exact p2)))
 simp [execOp,ho,g2,JG hT hcell]
theorem Zcr {P:Program} {o:Oper} {σ:Nat→AV} {T e:TypeId} {a x:Operand} {d q i off:Nat} {xs:List (List AV)} {vc vc':List AV} {y:AV} (ho:o.op = .store T a x) (ha:Zt P σ a = .eref d q (i*P.cellsOf e+off)) (hd:Zr (σ d) q=Xa (e,xs)) (hng:(σ d).isG=Xc)
  (hx:Zt P σ x=y) (hy:y.cells? = Xa vc) (hn:vc.length=P.cellsOf T) (h0:P.cellsOf T≠0) (hi:i < xs.length) (hfit:off+P.cellsOf T≤P.cellsOf e)
  (hw:vc'.length=vc.length∧∀ (w:World) (lim:Nat→Nat) (us:List Value),YC w lim vc us→YC w lim vc' us) (hnm:Zk P e=Xc) :
  JO P o σ .dead [(d,Zp (σ d) q Xb e (Zq xs i off vc'))] [d]:=by
 intro c hc σ' tm w lim X hid hag hsim next Q hnx
 have hga:Zt P σ' a=Zt P σ a:=ZJ fun t ht=>hid t (by simp [Zw (o:=o) (x:=a) (by rw [ho];simp [Op.operands]) ht])
 have hgx:Zt P σ' x=Zt P σ x:=ZJ fun t ht=>hid t (by simp [Zw (o:=o) (x:=x) (by rw [ho];simp [Op.operands]) ht])
 have hsd:σ' d=σ d:=hag d (by simp)
 have hd':Zr (σ' d) q=Xa (e,xs):=by rw [hsd,hd]
 have hva:=Yj hc hsim ha hga
 rw [← hc] at hva
 obtain ⟨us,h4,h5⟩:=VZ hy (Yj hc hsim hx hgx)
 obtain ⟨b,arr,cap,g1,h3,g3,g4,g6,g7,g8,g9,g10,g11⟩:=Ze5 hsim hd' hva (by rw [hc];exact hnm)
 rw [hc] at g8 g9 h3
 obtain ⟨inf,hinf⟩:=Zy h0
 have h5':=hw.2 w lim us h5
 have hlen:us.length=P.cellsOf T:=by rw [← h5.1,hn]
 have hmul:i*P.cellsOf e+P.cellsOf e≤xs.length*P.cellsOf e:=by
  rw [← Uj];exact XF _ hi
 have hcap:xs.length*P.cellsOf e≤cap*P.cellsOf e:=XF _ g6
 have hmem:=Ys (i:=i) g9 g10 (by rw [hw.1,hn];exact hfit) h5'.2.1
 have hst:=Yr (P:=P) (T:=T) (w:=w) (b:=b) (off:=i*P.cellsOf e+off) (v:=Act.eval ⟨tm,[]⟩ x) hinf h4 hlen g3 (by rw [hlen,g8];omega) (fun u hu=>by
  obtain ⟨j,hj⟩:=XU.1 hu
  have hlt:j < vc.length:=by rw [h5.1];exact (Xn.1 hj).1
  exact (h5.2.2 j _ u (Xq hlt) hj).oneCell (h5.2.1 _ (Xy hlt)))
 obtain ⟨X',hset⟩:=hsim.setPlace (xs':=Zq xs i off vc') (arr':=(arr.toList.take (i*P.cellsOf e+off)++us++arr.toList.drop (i*P.cellsOf e+off+us.length)).toArray) hd' (by rw [hsd];exact hng) g1 g3
  (by simp [g8];omega) (by simp [Zq]) (fun x hx=>by rw [hc];exact (hmem x hx).1) (fun x hx=>(hmem x hx).2) (fun j z u hz hu=>by
   rw [Jz g9 (by omega) (by rw [hw.1,hn];exact hfit)] at hz
   refine Ze7 (R:=Rep w lim) (us:=arr.toList) (fun j z u hz hu=>g11 j z u hz (by simpa using hu)) h5'.2.2 (by rw [hw.1,h5.1]) ?_ ?_ j z u hz (by simpa using hu)
   ·rw [Zh xs _ g9];omega
   ·simp [g8];omega)
 rw [hsd] at hset
 refine JU (w':=w.setRow b (arr.toList.take (i*P.cellsOf e+off)++us++arr.toList.drop (i*P.cellsOf e+off+us.length)).toArray) ?_ (hnx undef _ ?_)
 ·simp only [execOp,ho,h3,Sem.run_bind,hst,Result.andThen_ok,Sem.run_pure]
 ·exact ZE hset rfl (k:=0) trivial
theorem Zfu {P:Program} {o:Oper} {σ:Nat→AV} {cl:Call} {x:Operand} {T el e:TypeId} {d q:Nat} {xs:List (List AV)} (ho:o.op = .call cl) (hcl:cl.callee = .builtin .len)
  (hargs:cl.args.toList = [x]) (hts:cl.argTypes.toList = [T]) (hT:P.underlying T=Xa (.slice el)) (hx:Zt P σ x = .mref d q) (hd:Zr (σ d) q=Xa (e,xs)) (hnm:Zk P e=Xc∨Zg P e=Xb):JO P o σ (.val (.int .i64 xs.length)) [] [d]:=by
 have hargs':cl.args = #[x]:=by apply XR.1;rw [hargs]
 have hts':cl.argTypes = #[T]:=by apply XR.1;rw [hts]
 refine ZK [d] rfl fun c hc σ' tm w lim X hg hfp hsim=>⟨.int .i64 xs.length,?_,.val rfl⟩
 rw [ho] at hg
 have hv:=Yj hc hsim hx (hg x (by simp [Op.operands,Call.operands,hargs',hcl]))
 have hd':Zr (σ' d) q=Xa (e,xs):=by rw [hfp d (by simp),hd]
 rw [← hc] at hv
 have hform:∃ a cap,Act.eval ⟨tm,[]⟩ x = .slice a xs.length cap:=by
  rcases Zcw hsim hd' hv (by rw [hc];exact hnm) with ⟨rfl,h | ⟨a,h⟩⟩ | ⟨b,arr,cap,cap',g1,g2,g3⟩
  ·exact ⟨_,_,h⟩
  ·exact ⟨_,_,h⟩
  ·exact ⟨_,_,g2⟩
 obtain ⟨a,cap,g2⟩:=hform
 simp [execOp,ho,hcl,resolve,hargs',hts',invoke,builtin,Builtin.len_,g2,run_underlying hT,goInt]
theorem ZjK {P:Program} {w:World} {lim:Nat→Nat} {f:Bool} {ys:List (List AV)} {v:Value} (n:Nat) (h:Rep w lim (.slice f 1 ys) v) :
  (v = .slice Xe 0 0∧ys = [])∨∃ (a:Addr) (sLen sCap:Nat) (cs:List Value),v = .slice (Xa a) sLen sCap∧cs.length=Nat.min sLen n∧sLen=ys.length∧(∀ y∈ys,y.length=1∧∀ c∈y,c.isCell=Xb)∧(∀ j u,cs[j]? = Xa u→w.cell? (a.add j)=Xa u)∧
   (∀ u∈cs,u.oneCell'=Xb)∧∀ (j:Nat) (z:AV) (u:Value),(ys.take n).flatten[j]? = Xa z→cs[j]? = Xa u→Rep w lim z u:=by
 have key:∀ (y:AV),Rep w lim y v→y = .slice f 1 ys→(v = .slice Xe 0 0∧ys = [])∨∃ (a:Addr) (sLen sCap:Nat) (cs:List Value),v = .slice (Xa a) sLen sCap∧cs.length=Nat.min sLen n∧sLen=ys.length∧(∀ y∈ys,y.length=1∧∀ c∈y,c.isCell=Xb)∧(∀ j u,cs[j]? = Xa u→w.cell? (a.add j)=Xa u)∧
   (∀ u∈cs,u.oneCell'=Xb)∧∀ (j:Nat) (z:AV) (u:Value),(ys.take n).flatten[j]? = Xa z→cs[j]? = Xa u→Rep w lim z u:=by
  intro y hy hye
  cases hy with
  | sliceN => injection hye with h1 h2 h3; exact .inl ⟨rfl, h3.symm⟩
  | @sliceE f' s2 a cap hf =>
   injection hye with h1 h2 h3
   subst h3
   exact .inr ⟨a,0,cap,[],rfl,by simp,rfl,by simp,by simp,by simp,by simp⟩
  | @sliceC f' s2 xs b o cap us hs hc hf hle hlim hus hcell hr =>
   injection hye with h1 h2 h3
   subst h2
   subst h3
   have hfl:xs.flatten.length=us.length:=by rw [Zh xs _ hs,hus]
   refine .inr ⟨⟨b,o,Xe⟩,xs.length,cap,us.take n,rfl,?_,rfl,fun y hy=>⟨hs y hy,hc y hy⟩,fun j u hj=>?_,fun u hu=>?_,fun j z u hz hu=>?_⟩
   ·rw [Xt,hus,UM];exact Nat.min_comm _ _
   ·rw [Xz] at hj
    split at hj
    ·rw [Jk];exact hcell j u hj
    ·cases hj
   ·obtain ⟨j,hj⟩:=XU.1 (XP hu)
    have hlt:j < xs.flatten.length:=by rw [hfl];exact (Xn.1 hj).1
    have hz:xs.flatten[j]? = Xa xs.flatten[j]:=Xq hlt
    obtain ⟨l,hl,hzl⟩:=Td.1 (Xy hlt)
    exact (hr j _ u hz hj).oneCell (hc l hl _ hzl)
   ·rw [JV xs n hs,UM,Xz] at hz
    rw [Xz] at hu
    split at hz
    ·rename_i hjn
     rw [if_pos hjn] at hu
     exact hr j z u hz hu
    ·cases hz
  | val _ => cases hye
  | agg _ _ _ => cases hye
  | nest => cases hye
 exact key _ h rfl
theorem Ze8 {P:Program} {w:World} {T T' ty e:TypeId} {v u:Value} {inf:TypeInfo} (hT:P.underlying T=Xa (.slice e)) (hi:P.info? e=Xa inf) (hv:v = .slice Xe 0 0∨∃ a,v = .slice (Xa a) 0 0)
  (hu:∃ b n c,u = .slice b n c):(Builtin.copy_ #[T,T'] ty #[v,u]).run P w = .ok (goInt 0) w:=by
 obtain ⟨b,n,c,rfl⟩:=hu
 have hl:∀ a,(loadCells a 0).run P w = .ok #[] w:=fun a=>run_loadCells_list (P:=P) w a [] (fun j v hj=>by simp at hj)
 have hz:Nat.min n 0=0:=Nat.min_zero n
 rcases hv with rfl | ⟨a,rfl⟩ <;> cases b<;>simp [Builtin.copy_,run_underlying hT,Zv hi,Builtin.lenOf,Builtin.firstCells,hz,hl,storeCells]
theorem ZdT {P:Program} {o:Oper} {σ:Nat→AV} {cl:Call} {T T' e:TypeId} {x y:Operand} {d q:Nat} {xs ys:List (List AV)} {f:Bool} (ho:o.op = .call cl) (hcl:cl.callee = .builtin .copy)
  (hargs:cl.args.toList = [x,y]) (hts:cl.argTypes.toList = [T,T']) (hT:P.underlying T=Xa (.slice e)) (hs:P.cellsOf e=1) (hx:Zt P σ x = .mref d q) (hd:Zr (σ d) q=Xa (e,xs)) (hng:(σ d).isG=Xc) (hy:Zt P σ y = .slice f 1 ys) (hnm:Zk P e=Xc) :
  JO P o σ .dead [(d,Zp (σ d) q Xb e (Zp7 xs ys))] [d]:=by
 have hargs':cl.args = #[x,y]:=by apply XR.1;rw [hargs]
 have hts':cl.argTypes = #[T,T']:=by apply XR.1;rw [hts]
 intro c hc σ' tm w lim X hid hag hsim next Q hn
 subst hc
 have hgx:Zt c.P σ' x=Zt c.P σ x:=ZJ fun t ht=>hid t (by simp [Zw (o:=o) (x:=x) (by rw [ho];simp [Op.operands,Call.operands,hargs',hcl]) ht])
 have hgy:Zt c.P σ' y=Zt c.P σ y:=ZJ fun t ht=>hid t (by simp [Zw (o:=o) (x:=y) (by rw [ho];simp [Op.operands,Call.operands,hargs',hcl]) ht])
 have hsd:σ' d=σ d:=hag d (by simp)
 have hd':Zr (σ' d) q=Xa (e,xs):=by rw [hsd,hd]
 have hyv:Rep w lim (.slice f 1 ys) (Act.eval ⟨tm,[]⟩ y):=Yj rfl hsim hy hgy
 obtain ⟨inf,hinf⟩:=Zy (P:=c.P) (T:=e) (by omega)
 have hsz:c.P.cellsOf e=inf.size:=ZI hinf
 have hs1:(c.P.info? e).map (·.size)=Xa 1:=by rw [hinf,Xv,← hsz,hs]
 have hsame:∀ xs',xs'=xs→JC σ' [(d,Zp (σ d) q Xb e xs')]=σ':=by
  rintro xs' rfl
  funext k
  simp only [JC,upd]
  split
  ·rename_i hk
   subst hk
   rw [hsd]
   rcases ZG hd with ⟨h1,rfl⟩ | ⟨cs,q,h1,rfl,h2⟩ | ⟨cs,q,h1,rfl,h2⟩
   case inr.inr=>rw [h1] at hng;cases hng
   ·rw [h1];rfl
   ·rw [h1]
    simp only [Zp,AV.box.injEq]
    apply UD
    intro i
    by_cases hi:i=q
    ·subst hi
     rw [Uq (Xn.1 h2).1,h2]
    ·rw [Ur (fun h=>hi h.symm)]
  ·rfl
 rcases ZeS hsim hd' (Yj rfl hsim hx hgx) hnm with ⟨rfl,hv0⟩ | ⟨b,arr,cap,cap',g1,g2,g3,g4,g6,g7,g8,g9,g10,g11⟩
 ·have hrun:=Ze8 (P:=c.P) (w:=w) (T:=T) (T':=T') (ty:=o.type) (u:=Act.eval ⟨tm,[]⟩ y) hT hinf hv0 (by
   rcases ZjK (P:=c.P) 0 hyv with ⟨h,_⟩ | ⟨a,sLen,sCap,cs,h,_⟩
   ·exact ⟨_,_,_,h⟩
   ·exact ⟨_,_,_,h⟩)
  refine Zs (v:=goInt 0) (w':=w) ?_ (hn _ w ?_)
  ·simp only [execOp,ho,resolve,hcl,hargs',hts',UB,Xk,XL,Sem.run_bind,Sem.run_pure,Result.andThen_ok,invoke,builtin,hrun]
  ·rw [hsame _ (by simp [Zp7])]
   exact ZE hsim rfl (k:=0) trivial
 have hf1:∀ x∈xs,x.length=1:=fun x hx=>by rw [g9 x hx,hs]
 rw [hs,UM] at g8
 rcases ZjK (P:=c.P) xs.length hyv with ⟨hv,hnil⟩ | ⟨a,sLen,sCap,cs,hv,h1,h2,h3,h4,h5,h6⟩
 ·subst hnil
  have hrun:=run_copy_nil c.P w T T' o.type e ⟨b,0,Xe⟩ xs.length cap' hT (by rw [hs1];rfl)
  refine Zs (v:=goInt 0) (w':=w) ?_ (hn _ w ?_)
  ·simp only [execOp,ho,resolve,hcl,hargs',hts',UB,Xk,XL,Sem.run_bind,Sem.run_pure,Result.andThen_ok,invoke,builtin,g2,hv,hrun]
  ·rw [hsame _ (by simp [Zp7])]
   exact ZE hsim rfl (k:=0) trivial
 ·have h1':cs.length=min sLen xs.length:=h1
  have hrun:=run_copy_row c.P w T T' o.type e b 0 xs.length cap' a sLen sCap arr e cs hT hs1 g3 h1 h4 (by rw [h1',g8];omega) h5
  rw [XM] at hrun
  have hcl':cs.length≤xs.length:=by rw [h1];exact Nat.min_le_right _ _
  have e1:Zp7 xs ys=ys.take xs.length++xs.drop cs.length:=by
   unfold Zp7
   rw [h1']
   congr 1
   by_cases hle:ys.length≤xs.length
   ·rw [h2,Nat.min_eq_left hle]
   ·rw [h2,Nat.min_eq_right (by omega),UQ (by omega),UQ (by omega)]
  have hyl:(ys.take xs.length).length=cs.length:=by rw [Xt,h1',h2];exact Nat.min_comm _ _
  have hm:∀ x∈Zp7 xs ys,x.length=1∧∀ c∈x,c.isCell=Xb:=by
   rw [e1]
   intro x hx
   rcases Xs.1 hx with hx | hx
   ·exact h3 x (XP hx)
   ·exact ⟨hf1 x (XS hx),g10 x (XS hx)⟩
  have hyf:(ys.take xs.length).flatten.length=cs.length:=by rw [Zh (ys.take xs.length) 1 fun y hy=>(h3 y (XP hy)).1,hyl,UM]
  obtain ⟨X',hset⟩:=hsim.setPlace (xs':=Zp7 xs ys) (arr':=(arr.toList.take 0++cs++arr.toList.drop cs.length).toArray) hd' (by rw [hsd];exact hng) g1 g3 (by simp;omega) (by rw [e1,Xr,hyl,XV];omega)
   (fun x hx=>by rw [hs];exact (hm x hx).1) (fun x hx=>(hm x hx).2) (fun j z u hz hu=>by
    rw [e1,UF,KQ xs cs.length hf1,UM] at hz
    refine Ze7 (R:=Rep w lim) (off:=0) (zs:=xs.flatten) (us:=arr.toList) (fun j z u hz hu=>g11 j z u hz (by simpa using hu)) h6 hyf (XZ _) (XZ _) j z u ?_ ?_
    ·rw [XM,hyf];simpa using hz
    ·rw [XM];simpa using hu)
  rw [hsd] at hset
  refine Zs (v:=goInt cs.length) (w':=w.setRow b (arr.toList.take 0++cs++arr.toList.drop cs.length).toArray) ?_ (hn _ _ (ZE hset rfl (k:=0) trivial))
  simp only [execOp,ho,resolve,hcl,hargs',hts',UB,Xk,XL,Sem.run_bind,Sem.run_pure,Result.andThen_ok,invoke,builtin,g2,hv,hrun]
theorem ZhO {T':Odr} {P:Program} {o:Oper} {σ:Nat→AV} {T e:TypeId} {x y:Operand} {d:Nat} {xs:List (List AV)} {k:IntKind} {h:Nat} {us:List (Nat×AV)} (ho:o.op = .slice T x Xe (Xa y) Xe) (hT:P.underlying T=Xa (.slice e)) (hs0:P.cellsOf e≠0)
  (hx:Zt P σ x = .mref d 0) (hd:σ d = .own Xb e xs) (hy:Zt P σ y = .val (.int k h)) (hh:h≤xs.length) (hus:Yw T' σ d us) (hnm:Zk P e=Xc) :
  Kc T' P o σ (.own Xb e (xs.take h)) ((d,K8 P Xb e xs)::us) [d]:=by
 intro c hc σ' tm w lim X hid hag hTx hsim next Q hn
 have hgx:Zt P σ' x=Zt P σ x:=ZJ fun t ht=>hid t (by simp [Zw (o:=o) (x:=x) (by rw [ho];simp [Op.operands]) ht])
 have hgy:Zt P σ' y=Zt P σ y:=ZJ fun t ht=>hid t (by simp [Zw (o:=o) (x:=y) (by rw [ho];simp [Op.operands]) ht])
 have hd':σ' d = .own Xb e xs:=by rw [hag d (by simp),hd]
 have hv:=Yj hc hsim hx hgx
 have hyv:=Jh hc hsim hy hgy
 rw [← hc] at hv
 obtain ⟨X1,k1,k2,k3,_⟩:=hsim.freeAll (us:=us) hd' (.inr (hus.all hTx))
 rw [hc] at k1
 obtain ⟨inf,hinf⟩:=Zy hs0
 have hat:Zr (σ' d) 0=Xa (e,xs):=by rw [hd'];rfl
 rcases ZeS hsim hat hv (by rw [hc];exact hnm) with ⟨rfl,hform⟩ | ⟨b,arr,cap,cap',g1,g2,g3,g4,g5,g6,g7,g8,g9,g10⟩
 ·have hh0:h=0:=by simpa using hh
  subst hh0
  rcases hform with hf | ⟨a,hf⟩
  ·refine Zs (v:=.slice Xe 0 0) (w':=w) ?_ (hn _ w (Z3 (ob:=Xe) k1 (.inl ⟨[],World.ownsRow_nil _ 0 e _,rfl,by simp,by simp,by simp,by simp⟩) (by simp) (fun _=>.none rfl) fun _ _ b hb=>by cases hb))
   simp [execOp,ho,hf,hyv,Instr.sliceAt,Instr.slice,Instr.sliceBounds,Instr.sliceBound,asIntOf,run_underlying hT,Zv hinf]
  ·refine Zs (v:=.slice (Xa a) 0 0) (w':=w) ?_ (hn _ w (Z3 (ob:=Xe) k1 (.inr (.inl ⟨rfl,rfl,a,rfl⟩)) (by simp) (fun _=>.none rfl) fun _ _ b hb=>by cases hb))
   simp [execOp,ho,hf,hyv,Instr.sliceAt,Instr.slice,Instr.sliceBounds,Instr.sliceBound,asIntOf,run_underlying hT,Zv hinf]
 ·have hsz:P.cellsOf e=inf.size:=ZI hinf
  have hle:xs.length≤cap':=by
   obtain ⟨e2,xs2,m1,m2⟩:=hv
   rw [hat] at m1
   simp only [Xf,Xo] at m1
   obtain ⟨rfl,rfl⟩:=m1
   rcases m2.noMap (by rw [hc];exact hnm) with ⟨m2,_⟩ | ⟨b',arr',cap2,m2,m3,m4,m5⟩
   ·rw [g1] at m2;cases m2
   ·rw [g1] at m2
    have hb:b=b':=Xp m2
    subst hb
    rw [g3] at m3
    simp only [Xf,Obj.cells.injEq,and_true] at m3
    subst m3
    rw [g2] at m5
    simp only [Value.slice.injEq] at m5
    have hcap:cap2=cap:=TR (by rw [hc];omega) (m4.symm.trans g7)
    omega
  have hce:cap'=cap:=by
   obtain ⟨e2,xs2,m1,m2⟩:=hv
   rw [hat] at m1
   simp only [Xf,Xo] at m1
   obtain ⟨rfl,rfl⟩:=m1
   rcases m2.noMap (by rw [hc];exact hnm) with ⟨m2,_⟩ | ⟨b',arr',cap2,m2,m3,m4,m5⟩
   ·rw [g1] at m2;cases m2
   ·rw [g1] at m2
    have hb:b=b':=Xp m2
    subst hb
    rw [g3] at m3
    simp only [Xf,Obj.cells.injEq,and_true] at m3
    subst m3
    rw [g2] at m5
    simp only [Value.slice.injEq] at m5
    have hcap:cap2=cap:=TR (by rw [hc];omega) (m4.symm.trans g7)
    omega
  subst hce
  have hlt:(xs.take h).length=h:=by rw [Xt];omega
  have key:ZY c.P w lim Xb e (xs.take h) (.slice (Xa ⟨b,0,Xe⟩) (xs.take h).length cap') (Xa b):=
   Vu g3 g4 (by omega) g6 g7 (fun x hx=>g8 x (XP hx)) (fun x hx=>g9 x (XP hx)) fun j z u hz hu=>g10 j z u (by
    rw [JV xs h g8,Xz] at hz
    split at hz
    ·exact hz
    ·cases hz) hu
  rw [hlt] at key
  refine Zs (v:=.slice (Xa ⟨b,0,Xe⟩) h cap') (w':=w) ?_ (hn _ w (Z3 k1 key (fun b' hb'=>?_) (fun _=>.noMap (by rw [hc];exact hnm)) fun _ hd=>by rw [hc,ZT hnm] at hd;cases hd))
  ·have b1:h≤cap':=by omega
   simp [execOp,ho,g2,hyv,Instr.sliceAt,Instr.slice,Instr.sliceBounds,Instr.sliceBound,asIntOf,run_underlying hT,Zv hinf,b1,Jk]
  ·exact k3 b' (g1.trans hb')
theorem Zln {c:Ctx} {σ:Nat→AV} {tm:Array Value} {w:World} {lim:Nat→Nat} {X:Nat→Nat→Option Nat} (h:Sim c σ tm w lim X) {d q k:Nat} {e:TypeId} {xs:List (List AV)} {v:Value}
  (hd:Zr (σ d) q=Xa (e,xs)) (hv:ZZ c.P w lim X σ k (.mref d q) v) (hnm:Zk c.P e=Xc):RdS w lim (c.P.cellsOf e) xs v:=by
 rcases ZeS h hd hv hnm with ⟨h1,h2 | ⟨a,h2⟩⟩ | ⟨b,arr,cap,cap',g1,g2,g3,g4,g5,g6,g7,g8,g9,g10⟩
 ·exact .inl ⟨h1,_,_,h2⟩
 ·exact .inl ⟨h1,_,_,h2⟩
 ·have hal:arr.toList.length=cap*c.P.cellsOf e:=by simpa using g7
  have hle:xs.length*c.P.cellsOf e≤arr.toList.length:=by rw [hal];exact XF _ g5
  refine .inr ⟨b,0,cap',arr.toList.take (xs.length*c.P.cellsOf e),g2,g8,g9,by rw [Xt];omega,fun j u hj=>?_,fun j z u hz hu=>?_⟩
  ·rw [Xz] at hj
   split at hj
   ·rw [XM,Zl g3]
    simpa using hj
   ·cases hj
  ·rw [Xz] at hu
   split at hu
   ·exact g10 j z u hz (by simpa using hu)
   ·cases hu
theorem ZcF {P:Program} {o:Oper} {σ:Nat→AV} {T e:TypeId} {x y z:Operand} {d q s:Nat} {k k':IntKind} (ho:o.op = .slice T x Xe (Xa y) (Xa z))
  (hT:P.underlying T=Xa (.slice e)) (hs0:P.cellsOf e≠0) (hx:Zt P σ x = .mref d q) (hy:Zt P σ y = .val (.int k 0)) (hz:Zt P σ z = .val (.int k' 0)) {e':TypeId} {xs':List (List AV)} (hd:Zr (σ d) q=Xa (e',xs')) (hnm:Zk P e'=Xc):JO P o σ (.slice Xb s []) [] [d]:=by
 refine ZK [d] rfl fun c hc σ' tm w lim X hg hfp hsim=>?_
 rw [ho] at hg
 have hv:=Yj hc hsim hx (hg x (by simp [Op.operands]))
 have hy':=Jh hc hsim hy (hg y (by simp [Op.operands]))
 have hz':=Jh hc hsim hz (hg z (by simp [Op.operands]))
 obtain ⟨inf,hinf⟩:=Zy hs0
 generalize hu:Act.eval ⟨tm,[]⟩ x=u at hv
 obtain ⟨e2,xs,he2,hv⟩:=hv
 rw [hfp d (by simp),hd] at he2
 simp only [Xf,Xo] at he2
 obtain ⟨rfl,rfl⟩:=he2
 rcases hv.noMap hnm with ⟨_,_,rfl | ⟨a,rfl⟩⟩ | ⟨b,arr,cap,_,_,_,rfl⟩
 ·refine ⟨.slice Xe 0 0,?_,.sliceN⟩
  simp [execOp,ho,hu,hy',hz',Instr.sliceAt,Instr.slice,Instr.sliceBounds,Instr.sliceBound,asIntOf,run_underlying hT,Zv hinf]
 ·refine ⟨.slice (Xa a) 0 0,?_,.sliceE (fun _=>rfl)⟩
  simp [execOp,ho,hu,hy',hz',Instr.sliceAt,Instr.slice,Instr.sliceBounds,Instr.sliceBound,asIntOf,run_underlying hT,Zv hinf]
 ·refine ⟨.slice (Xa ⟨b,0,Xe⟩) 0 0,?_,.sliceE (fun _=>rfl)⟩
  simp [execOp,ho,hu,hy',hz',Instr.sliceAt,Instr.slice,Instr.sliceBounds,Instr.sliceBound,asIntOf,run_underlying hT,Zv hinf]
theorem VV {P:Program} {o:Oper} {σ:Nat→AV} (ex:Bool) {cl:Call} {T e:TypeId} {i:TypeInfo} {z:Value} {x y:Operand} {d q:Nat} {ys:List (List AV)} {s:Nat} (ho:o.op = .call cl) (hcl:cl.callee = .builtin .append)
  (hargs:cl.args.toList = [x,y]) (hts:cl.argTypes.toList = [T,T]) (hT:P.underlying T=Xa (.slice e)) (hi:P.info? e=Xa i) (hz:i.zero=Xa z) (hzs:z.cells.size=i.size)
  (hx:Zt P σ x = .slice Xb s []) (hy:Zt P σ y = .mref d q) (hd:Zr (σ d) q=Xa (e,ys)) (hroom:(([] : List (List AV)).length+ys.length)*(i.bytes+1)≤Jc) (hnm:Zk P e=Xc) :
  JO P o σ (.own ex e ys) [] [d]:=by
 have hargs':cl.args = #[x,y]:=by apply XR.1;rw [hargs]
 have hts':cl.argTypes = #[T,T]:=by apply XR.1;rw [hts]
 intro c hc σ' tm w lim X hid hag hsim next Q hn
 have hgx:Zt P σ' x=Zt P σ x:=ZJ fun t ht=>hid t (by simp [Zw (o:=o) (x:=x) (by rw [ho];simp [Op.operands,Call.operands,hargs',hcl]) ht])
 have hgy:Zt P σ' y=Zt P σ y:=ZJ fun t ht=>hid t (by simp [Zw (o:=o) (x:=y) (by rw [ho];simp [Op.operands,Call.operands,hargs',hcl]) ht])
 have hxv:ZY P w lim ex e [] (Act.eval ⟨tm,[]⟩ x) Xe:=Zan (s:=s) (Yj hc hsim hx hgx)
 have hd':Zr (σ' d) q=Xa (e,ys):=by rw [hag d (by simp),hd]
 have hyv:RdS w lim (P.cellsOf e) ys (Act.eval ⟨tm,[]⟩ y):=by
  have hv:=Yj hc hsim hy hgy
  rw [← hc] at hv ⊢
  exact Zln hsim hd' hv (by rw [hc];exact hnm)
 obtain ⟨v',w',lim',ob',r1,r2,r3,r4⟩:=K4 (ty:=o.type) hT hi hz hzs hxv hyv hroom hnm
 have hw:=hsim.world r3 fun b hb=>by cases hb
 refine Zs (v:=v') (w':=w') ?_ (hn _ w' ?_)
 ·simp only [execOp,ho,resolve,hcl,hargs',hts',UB,Xk,XL,Sem.run_bind,Sem.run_pure,Result.andThen_ok,invoke,builtin,r1]
 ·rw [← hc,X4] at r2
  refine Z3 hw r2 (fun b hb=>?_) (fun _=>.noMap (by rw [hc];exact hnm)) fun _ hd=>by rw [hc,ZT hnm] at hd;cases hd
  rcases r4 with r4 | r4
  ·rw [r4] at hb;cases hb
  ·rw [r4] at hb
   simp only [Xf] at hb
   subst hb
   exact ⟨.inr hsim.frm.size,fun i j=>Kh hsim i j⟩
theorem Ww {T':Odr} {P:Program} {o:Oper} {σ:Nat→AV} {cl:Call} {T e:TypeId} {i:TypeInfo} {z:Value} {t:Nat} {y:Operand} {x:Bool} {xs ys:List (List AV)} {us:List (Nat×AV)} {d q:Nat} (ho:o.op = .call cl) (hcl:cl.callee = .builtin .append)
  (hargs:cl.args.toList = [.tmp t,y]) (hts:cl.argTypes.toList = [T,T]) (hT:P.underlying T=Xa (.slice e)) (hi:P.info? e=Xa i) (hz:i.zero=Xa z) (hzs:z.cells.size=i.size)
  (ht:σ t = .own x e xs) (hy:Zt P σ y = .mref d q) (hd:Zr (σ d) q=Xa (e,ys)) (hroom:(xs.length+ys.length)*(i.bytes+1)≤Jc) (hus:(x=Xc∧us = [])∨Yw T' σ t us) (hnm:Zk P e=Xc) :
  Kc T' P o σ (.own x e (xs++ys)) ((t,K8 P x e xs)::us) [d]:=by
 have hargs':cl.args = #[.tmp t,y]:=by apply XR.1;rw [hargs]
 have hts':cl.argTypes = #[T,T]:=by apply XR.1;rw [hts]
 intro c hc σ' tm w lim X hid hag hTx hsim next Q hn
 have hgy:Zt P σ' y=Zt P σ y:=ZJ fun t ht=>hid t (by simp [Zw (o:=o) (x:=y) (by rw [ho];simp [Op.operands,Call.operands,hargs',hcl]) ht])
 have ht':σ' t = .own x e xs:=by rw [hag t (by simp),ht]
 obtain ⟨X1,h1,h2,h3,_⟩:=hsim.freeAll (us:=us) ht' (hus.imp id fun h=>h.all hTx)
 have hd':Zr (σ' d) q=Xa (e,ys):=by rw [hag d (by simp),hd]
 have hyv:RdS w lim (P.cellsOf e) ys (Act.eval ⟨tm,[]⟩ y):=by
  have hv:=Yj hc hsim hy hgy
  rw [← hc] at hv ⊢
  exact Zln hsim hd' hv (by rw [hc];exact hnm)
 rw [hc] at h2
 obtain ⟨v',w',lim',ob',r1,r2,r3,r4⟩:=K4 (ty:=o.type) hT hi hz hzs h2 hyv hroom hnm
 have hw:=h1.world r3 h3
 refine Zs (v:=v') (w':=w') ?_ (hn _ w' ?_)
 ·have hev:Act.eval ⟨tm,[]⟩ (.tmp t)=tm.getD t undef:=rfl
  simp only [execOp,ho,resolve,hcl,hargs',hts',UB,Xk,XL,Sem.run_bind,Sem.run_pure,Result.andThen_ok,invoke,builtin,hev,r1]
 ·rw [hc] at hw
  rw [← hc] at r2
  refine Z3 hw r2 (fun b hb=>?_) (fun _=>.noMap (by rw [hc];exact hnm)) fun _ hd=>by rw [hc,ZT hnm] at hd;cases hd
  rcases r4 with r4 | r4
  ·rw [r4] at hb;exact h3 b hb
  ·rw [r4] at hb
   simp only [Xf] at hb
   subst hb
   exact ⟨.inr hsim.frm.size,fun i j=>Kh h1 i j⟩
theorem Wz {P:Program} {w:World} {T ty e:TypeId} {a:Option Addr} {c:Nat} (hT:P.underlying T=Xa (.slice e)):(Builtin.clear_ #[T] ty #[.slice a 0 c]).run P w = .ok (.tuple #[]) w:=by
 cases a<;>simp [Builtin.clear_,run_underlying hT]
theorem Zax {P:Program} {w:World} {T ty e t:TypeId} {inf:TypeInfo} {z:Value} {b o n c:Nat} {arr:Array Value} (hT:P.underlying T=Xa (.slice e)) (hi:P.info? e=Xa inf) (hz:inf.zero=Xa z) (hg:w.heap[b]? = Xa (.cells arr t (0,0)))
  (hfit:o+(n+1)*z.cells.size≤arr.size) (h1:∀ v∈z.cells.toList,v.oneCell'=Xb) :
  (Builtin.clear_ #[T] ty #[.slice (Xa ⟨b,o,Xe⟩) (n+1) c]).run P w =
   .ok (.tuple #[]) (w.setRow b (arr.toList.take o++(XG (n+1) z.cells.toList).flatten++arr.toList.drop (o+(n+1)*z.cells.size)).toArray):=by
 have hrep:=replicate_zero z.cells.toList (n+1)
 rw [UE] at hrep
 have hzc:(Builtin.zeroCells z.cells (n+1)).toList=(XG (n+1) z.cells.toList).flatten:=by
  have:Builtin.zeroCells z.cells (n+1)=madeCells z.cells ((n+1)*z.cells.toList.length):=by simp [Builtin.zeroCells,madeCells]
  rw [this]
  have h2:madeCells z.cells ((n+1)*z.cells.toList.length)=((XG (n+1) z.cells.toList).flatten).toArray:=hrep
  rw [h2]
 have hlen:((XG (n+1) z.cells.toList).flatten).length=(n+1)*z.cells.size:=by simp
 have hst:=run_storeCells_at P b o t ((XG (n+1) z.cells.toList).flatten) 0 arr w hg (by rw [hlen];exact hfit) (fun v hv=>by
  obtain ⟨l,hl,hv⟩:=Td.1 hv
  rw [(UG.1 hl).2] at hv
  exact h1 v hv)
 rw [Ug,hlen] at hst
 simp [Builtin.clear_,run_underlying hT,zeroValue,typeInfo,run_program,hi,hz,hzc,hst]
theorem Sim.clear {c:Ctx} {σ:Nat→AV} {tm:Array Value} {w:World} {lim:Nat→Nat} {X:Nat→Nat→Option Nat} (h:Sim c σ tm w lim X) {x n:Nat} {T e:TypeId} {inf:TypeInfo} {z:Value} {zc:List AV} {xs:List (List AV)} (hx:σ x = .own Xb e xs)
  (hT:c.P.underlying T=Xa (.slice e)) (hi:c.P.info? e=Xa inf) (hz:inf.zero=Xa z) (hzs:z.cells.size=inf.size) (h0:0 < inf.size) (hzr:∀ (w:World) (lim:Nat→Nat),YC w lim zc z.cells.toList) (h1z:∀ v∈z.cells.toList,v.oneCell'=Xb) (hn:n≤xs.length) (hnm:Zk c.P e=Xc) :
  ∃ v2 w' X',(Instr.sliceAt T (tm.getD x undef) (Xa (.int .i64 n)) Xe Xe).run c.P w = .ok v2 w∧(∀ ty,(Builtin.clear_ #[T] ty #[v2]).run c.P w = .ok (.tuple #[]) w')∧
   Sim c (upd σ x (.own Xb e (xs.take n++XG (xs.length-n) zc))) tm w' lim X'∧xs.length≤maxLen:=by
 have hk:c.P.cellsOf e=inf.size:=ZI hi
 have hrel:=h.rel x
 rw [hx] at hrel
 have hrel:ZY c.P w lim Xb e xs (tm.getD x undef) (X x 0):=hrel
 have same:∀ ys,ys=xs→upd σ x (.own Xb e ys)=σ:=by
  rintro ys rfl
  funext i
  by_cases hi:i=x
  ·subst hi;rw [ZC,hx]
  ·rw [Zf σ _ hi]
 have hsz:∀ w,(sizeOf e).run c.P w = .ok inf.size w:=fun w=>by rw [Zv hi,hk]
 cases hX:X x 0 with
 | none =>
  rw [hX] at hrel
  have hform:∃ base,tm.getD x undef = .slice base 0 0∧xs = []:=by
   rcases hrel.noMap hnm with ⟨us,hr,hob,_⟩ | ⟨hxs,_,a,hv⟩
   ·rcases hr.2 with ⟨hv,hl⟩ | ⟨g,cap,cur,hv,_⟩
    ·exact ⟨Xe,hv,Ub hl⟩
    ·rw [hv] at hob;cases hob
   ·exact ⟨_,hv,hxs⟩
  obtain ⟨base,hv,rfl⟩:=hform
  have hn0:n=0:=by simpa using hn
  subst hn0
  refine ⟨.slice base 0 0,w,X,?_,fun ty=>Wz hT,by rw [same _ (by simp)];exact h,by simp⟩
  rw [hv]
  cases base<;>simp [Instr.sliceAt,Instr.slice,Instr.sliceBounds,Instr.sliceBound,asIntOf,run_underlying hT,hsz]
 | some b =>
  rw [hX] at hrel
  obtain ⟨arr,cap,hv,hg,hl,hle,hcm,hcs,hxl,hxc,hxr⟩:=V1 hrel (.inl hnm)
  rw [hk] at hcs hxl
  have hnc:n≤cap:=by omega
  have hzl:z.cells.toList.length=inf.size:=by rw [← hzs];simp
  have hslice:(Instr.sliceAt T (tm.getD x undef) (Xa (.int .i64 n)) Xe Xe).run c.P w = .ok (.slice (if cap=n then Xa ⟨b,0,Xe⟩ else Xa ⟨b,n*inf.size,Xe⟩) (xs.length-n) (cap-n)) w:=by
   rw [hv]
   have q1:n≤xs.length:=hn
   simp [Instr.sliceAt,Instr.slice,Instr.sliceBounds,Instr.sliceBound,asIntOf,run_underlying hT,hsz,q1,hnc,hle,Jk]
  by_cases hend:n=xs.length
  ·refine ⟨_,w,X,hslice,fun ty=>?_,by rw [same _ (by rw [hend];simp)];exact h,by omega⟩
   rw [hend,Nat.sub_self]
   exact Wz hT
  ·have hcn:¬ cap=n:=by omega
   obtain ⟨p,hp⟩:∃ p,xs.length-n=p+1:=⟨xs.length-n-1,by omega⟩
   have m1:n*inf.size+(p+1)*inf.size≤cap*inf.size:=by
    rw [← XT]
    exact XF _ (by omega)
   rw [if_neg hcn,hp] at hslice
   have hclr:=fun ty=>Zax (P:=c.P) (w:=w) (ty:=ty) (o:=n*inf.size) (n:=p) (c:=cap-n) hT hi hz hg (by rw [hzs,hcs];exact m1) h1z
   have hal:arr.toList.length=cap*inf.size:=by simpa using hcs
   have hfl:((XG (p+1) z.cells.toList).flatten).length=(p+1)*inf.size:=by simp [hzl,← hzs]
   obtain ⟨arr',harr⟩:∃ arr',arr'=(arr.toList.take (n*inf.size)++(XG (p+1) z.cells.toList).flatten++arr.toList.drop (n*inf.size+(p+1)*z.cells.size)).toArray:=⟨_,rfl⟩
   have hrl:=YX (hzr w lim) (p+1)
   have hxf:xs.flatten.length=xs.length*inf.size:=Zh xs _ hxl
   have hnx:n*inf.size≤xs.length*inf.size:=XF _ hn
   obtain ⟨X',hs⟩:=h.setPlace (d:=x) (k:=0) (b:=b) (e:=e) (xs:=xs) (xs':=xs.take n++XG (p+1) zc) (arr:=arr) (arr':=arr') (by rw [hx];rfl) (by rw [hx];rfl) hX hg
    (by
     rw [harr,Uk,Xr,Xr,hfl,Xt,XV,hal,hzs,hcs]
     omega)
    (by rw [Xr,Xt,Tk];omega)
    (fun y hy=>by
     rw [hk]
     rcases Xs.1 hy with hy | hy
     ·exact hxl y (XP hy)
     ·rw [(UG.1 hy).2,(hzr w lim).1,hzl])
    (fun y hy=>by
     rcases Xs.1 hy with hy | hy
     ·exact hxc y (XP hy)
     ·rw [(UG.1 hy).2]
      exact (hzr w lim).2.1)
    (fun j y u hy hu=>by
     rw [harr,U1,Xw] at hu
     rw [UF,JV xs n hxl] at hy
     have hln:(xs.flatten.take (n*inf.size)).length=n*inf.size:=by rw [Xt,hxf];omega
     have hla:(arr.toList.take (n*inf.size)).length=n*inf.size:=by rw [Xt,hal];omega
     by_cases hj:j < n*inf.size
     ·rw [XE (by omega),Xz,if_pos hj] at hy
      rw [XE (by omega),Xz,if_pos hj] at hu
      exact hxr j y u hy (by simpa using hu)
     ·rw [XB (by omega),hln] at hy
      rw [XB (by omega),hla] at hu
      have hjl:=(Xn.1 hy).1
      have hfz:((XG (p+1) zc).flatten).length=(p+1)*inf.size:=by simp [(hzr w lim).1,hzl,← hzs]
      rw [hfz] at hjl
      rw [XE (by rw [hfl];exact hjl)] at hu
      exact hrl.2.2 _ y u hy hu)
   refine ⟨_,_,X',hslice,hclr,?_,by omega⟩
   rw [← harr,hp]
   rw [hx] at hs
   exact hs
open Go.MapKept
open Go.RowKit (Below Below.refl)
theorem Yf (k:Int):IsKey (.int .i64) (.int .i64 k):=rfl
theorem W7 (z:Int) (c:List AV):Z1 (.val (.int .i64 z)::c)=Xa z:=rfl
theorem ZcX {es:Array MapEntry} {clock:Nat} {kvs:List (List AV)} (hl:es.size=kvs.length) (hs:Stamped es clock) (hr:∀ (i:Nat) (en:MapEntry) (row:List AV),es[i]? = Xa en→kvs[i]? = Xa row→∃ (z:Int) (tl:List AV),row = .val (.int .i64 z)::tl∧en.key = .int .i64 z) (k:Int) :
  (∀ x∈es.toList,IsKey (.int .i64) x.key)∧
  ((Instr.findNow (.int .i64) (.int .i64 k) es.toList 0=Xa Xe∧(∀ x∈es.toList,x.key≠.int .i64 k)∧∀ r∈kvs,Z1 r≠Xa k)∨
   ∃ j en row,Instr.findNow (.int .i64) (.int .i64 k) es.toList 0=Xa (Xa (j,en.val))∧es[j]? = Xa en∧kvs[j]? = Xa row∧en.key = .int .i64 k∧Z1 row=Xa k∧kvs.find? (fun r=>Z1 r == Xa k)=Xa row∧∀ i r,kvs[i]? = Xa r→i≠j→Z1 r≠Xa k):=by
 have hat:∀ i (hi:i < es.size),∃ row,kvs[i]? = Xa row∧∃ (z:Int) (tl:List AV),row = .val (.int .i64 z)::tl∧es[i].key = .int .i64 z:=fun i hi=>by
  have hi':i < kvs.length:=by omega
  exact ⟨kvs[i],Xq hi',hr i _ _ (X8 hi) (Xq hi')⟩
 have hkey:∀ x∈es.toList,IsKey (.int .i64) x.key:=fun x hx=>by
  obtain ⟨i,hi,rfl⟩:=List.mem_iff_getElem.1 hx
  have hi':i < es.size:=by simpa using hi
  obtain ⟨row,_,z,ys,_,h2⟩:=hat i hi'
  have:es.toList[i]=es[i]:=by simp
  rw [this,h2]
  exact rfl
 have hrk:∀ i r (hi:i < es.size),kvs[i]? = Xa r→Z1 r=Xa k→es[i].key = .int .i64 k:=fun i r hi hr' hk=>by
  obtain ⟨row,h1,z,ys,h3,h2⟩:=hat i hi
  rw [h1] at hr'
  cases hr'
  rw [h3,W7] at hk
  cases hk
  exact h2
 refine ⟨hkey,?_⟩
 rcases findNow_spec (Yf k) es.toList 0 hkey with ⟨h1,h2⟩ | ⟨j,en,h1,h2,h3⟩
 ·refine .inl ⟨h1,h2,fun r hrm hk=>?_⟩
  obtain ⟨i,hi,rfl⟩:=List.mem_iff_getElem.1 hrm
  have hi':i < es.size:=by omega
  exact h2 es[i] (by simp) (hrk i _ hi' (Xq hi) hk)
 ·rw [XM] at h1
  have hj:es[j]? = Xa en:=by simpa using h2
  have hjl:j < es.size:=(Ua.1 hj).1
  obtain ⟨row,h4,z,ys,h5,h6⟩:=hat j hjl
  have hen:es[j]=en:=(Ua.1 hj).2
  rw [hen,h3] at h6
  cases h6
  have huniq:∀ i r,kvs[i]? = Xa r→i≠j→Z1 r≠Xa k:=by
   intro i r hi hij hk
   have hil:i < es.size:=by have:=(Xn.1 hi).1;omega
   have h8:=hrk i r hil hi hk
   have hn:=hs.2.2
   rw [List.Nodup,List.pairwise_iff_getElem] at hn
   have e1:(es.toList.map (·.key))[i]'(by simpa using hil) = .int .i64 k:=by simp [h8]
   have e2:(es.toList.map (·.key))[j]'(by simpa using hjl) = .int .i64 k:=by simp [hen,h3]
   rcases Nat.lt_or_gt_of_ne hij with hlt | hlt
   ·exact hn i j (by simpa using hil) (by simpa using hjl) hlt (e1.trans e2.symm)
   ·exact hn j i (by simpa using hjl) (by simpa using hil) hlt (e2.trans e1.symm)
  refine .inr ⟨j,en,row,h1,hj,h4,h3,by rw [h5];rfl,?_,huniq⟩
  have hjk:j < kvs.length:=by omega
  have hrow:kvs[j]=row:=(Xn.1 h4).2
  have:kvs.find? (fun r=>Z1 r == Xa k)=Xa kvs[j]:=by
   rw [List.find?_eq_some_iff_getElem]
   refine ⟨by rw [hrow,h5];simp [Z1],j,hjk,rfl,fun i hi=>?_⟩
   have:=huniq i kvs[i] (Xq (by omega)) (by omega)
   simpa using this
  rw [this,hrow]
theorem Ze0 {P:Program} {et:TypeId} {w:World} {lim:Nat→Nat} {es:Array MapEntry} {clock:Nat} {kvs:List (List AV)} (hl:es.size=kvs.length) (hs:Stamped es clock) (hr:∀ (i:Nat) (en:MapEntry) (row:List AV),es[i]? = Xa en→kvs[i]? = Xa row→Zer P w lim et en row) (k:Int) :
  (∀ x∈es.toList,IsKey (.int .i64) x.key)∧
  ((Instr.findNow (.int .i64) (.int .i64 k) es.toList 0=Xa Xe∧(∀ x∈es.toList,x.key≠.int .i64 k)∧∀ r∈kvs,Z1 r≠Xa k)∨
   ∃ j en row,Instr.findNow (.int .i64) (.int .i64 k) es.toList 0=Xa (Xa (j,en.val))∧es[j]? = Xa en∧kvs[j]? = Xa row∧en.key = .int .i64 k∧Z1 row=Xa k∧kvs.find? (fun r=>Z1 r == Xa k)=Xa row∧∀ i r,kvs[i]? = Xa r→i≠j→Z1 r≠Xa k):=
 ZcX hl hs (fun i en row h1 h2=>by obtain ⟨z,ys,g1,g2,_⟩:=hr i en row h1 h2;exact ⟨z,_,g1,g2⟩) k
def Kd (w:World) (b:Nat) (o:Obj):World:={ w with heap:=w.heap.setIfInBounds b o }
theorem YW {w:World} {b:Nat} {o o':Obj} (h:w.heap[b]? = Xa o):(Kd w b o').heap[b]? = Xa o':=(heap_set (o':=o') h).1
theorem J2 {w:World} {b b':Nat} {o:Obj} (hb:b'≠b):(Kd w b o).heap[b']? = w.heap[b']?:=by
 unfold Kd
 simp [Ne.symm hb]
theorem Zbk {w:World} {lim:Nat→Nat} {b:Nat} {es es':Array MapEntry} {clock clock':Nat} (h:w.heap[b]? = Xa (.map es clock)) (hl:lim b=0):ZU w lim (Kd w b (.map es' clock')) lim (fun b'=>b'=b):=by
 refine ⟨rfl,rfl,rfl,by simp [Kd],fun a ha=>?_,fun b' _ hb=>⟨J2 hb,rfl⟩,fun b' _=>⟨XA _,fun o u ho hu=>?_⟩⟩
 ·by_cases hb:a.block=b
  ·unfold World.frozen?
   rw [hb,h,YW h]
  ·unfold World.frozen?
   rw [J2 hb]
 ·by_cases hb:b'=b
  ·subst hb;omega
  ·unfold World.cell? at hu ⊢
   rw [J2 hb]
   exact hu
theorem Zaj {P:Program} {e:TypeId} (h:(JD P (e-1048576)).isSome=Xb):Zg P e=Xc:=by
 obtain ⟨et,h⟩:=Option.isSome_iff_exists.1 h
 exact Kp h
theorem Zee {c:Ctx} {σ:Nat→AV} {tm:Array Value} {w:World} {lim:Nat→Nat} {X:Nat→Nat→Option Nat} (h:Sim c σ tm w lim X) {d:Nat} {e:TypeId} {kvs:List (List AV)} {tl:List AV} (hd:σ d = .own Xb e [.slice Xc 2 kvs::tl]) (h0:c.P.cellsOf e=0) (hks:(JD c.P (e-1048576)).isSome=Xb) :
  Zk c.P e=Xb∧∃ b es clock,X d 0=Xa b∧tm.getD d undef = .map (Xa b)∧w.heap[b]? = Xa (.map es clock)∧lim b=0∧es.size=kvs.length∧Stamped es clock∧
   ∃ et,JD c.P (e-1048576)=Xa et∧∀ (i:Nat) (en:MapEntry) (row:List AV),es[i]? = Xa en→kvs[i]? = Xa row→Zer c.P w lim et en row:=by
 have hr:=h.rel d
 rw [hd] at hr
 rcases (show ZY c.P w lim Xb e _ _ (X d 0) from hr) with ⟨us,_,_,_,h4,_⟩ | ⟨h1,_⟩ | ⟨_,⟨hm,b,es,clock,kvs',et,het,h1,h2,h3,h4,⟨tl',h5⟩,h6,h7,h8⟩ | ⟨hd',_⟩ | ⟨_,_,_,_,_,_,⟨_,hk',_⟩,_⟩⟩
 ·have:=h4 _ (XH.2 rfl)
  rw [h0] at this
  cases this
 ·cases h1
 ·simp only [List.cons.injEq,AV.slice.injEq,true_and,and_true] at h5
  obtain ⟨rfl,rfl⟩:=h5
  exact ⟨hm,b,es,clock,h1,h2,h3,h4,h6,h7,et,het,h8⟩
 ·rw [Zcb hd'] at hks;cases hks
 ·rw [hk'] at hks;cases hks
theorem Zai {c:Ctx} {σ:Nat→AV} {tm:Array Value} {w:World} {lim:Nat→Nat} {X:Nat→Nat→Option Nat} (h:Sim c σ tm w lim X) {d k:Nat} {e:TypeId} {kvs:List (List AV)} {tl:List AV} (hd:σ d = .own Xb e [.slice Xc 2 kvs::tl]) (h0:c.P.cellsOf e=0) (hks:(JD c.P (e-1048576)).isSome=Xb) {v:Value}
  (hv:ZZ c.P w lim X σ k (.mref d 0) v):v=tm.getD d undef:=by
 obtain ⟨_,b,es,clock,h1,h2,h3,_⟩:=Zee h hd h0 hks
 obtain ⟨e',xs',m1,m2⟩:=hv
 rw [hd] at m1
 simp only [Zr,Xf,Xo] at m1
 obtain ⟨rfl,rfl⟩:=m1
 rcases m2 with ⟨m2,_⟩ | ⟨b',arr,cap,m2,m3,_⟩ | ⟨_,_,b',arr,cap,m2,m3,_⟩ | ⟨_,_,b',es',clock',m2,m3,m4⟩
 ·rw [h1] at m2;cases m2
 ·rw [h1] at m2;cases m2;rw [h3] at m3;cases m3
 ·rw [h1] at m2;cases m2;rw [h3] at m3;cases m3
 ·rw [h1] at m2;cases m2;rw [m4,h2]
theorem Ze4 {kvs:List (List AV)} {k:Int} {cl:AV} {j:Nat} {row:List AV} (hj:kvs[j]? = Xa row) (hk:Z1 row=Xa k) (hu:∀ i r,kvs[i]? = Xa r→i≠j→Z1 r≠Xa k) :
  ∀ i r,(KZ kvs k cl)[i]? = Xa r→if i=j then r = [.val (.int .i64 k),cl] else kvs[i]? = Xa r∧Z1 r≠Xa k:=by
 have hany:(kvs.any fun r=>Z1 r == Xa k)=Xb:=UJ.2 ⟨row,Xj hj,by simp [hk]⟩
 intro i r hi
 rw [KZ,if_pos hany,Xl] at hi
 cases hr:kvs[i]? with
 | none => rw [hr] at hi; cases hi
 | some r0 =>
  rw [hr] at hi
  simp only [Xv,Xf] at hi
  by_cases hij:i=j
  ·subst hij
   rw [hj] at hr
   cases hr
   rw [if_pos rfl,← hi,if_pos (by simp [hk])]
  ·rw [if_neg hij]
   have:=hu i r0 hr hij
   rw [if_neg (by simpa using this)] at hi
   subst hi
   exact ⟨rfl,this⟩
theorem Zie {kvs:List (List AV)} {k:Int} {cl:AV} {j:Nat} {row:List AV} (hj:kvs[j]? = Xa row) (hk:Z1 row=Xa k):(KZ kvs k cl).length=kvs.length:=by
 have hany:(kvs.any fun r=>Z1 r == Xa k)=Xb:=UJ.2 ⟨row,Xj hj,by simp [hk]⟩
 rw [KZ,if_pos hany,Xi]
theorem Zk0 {kvs:List (List AV)} {k:Int} {cl:AV} (h:∀ r∈kvs,Z1 r≠Xa k):KZ kvs k cl=kvs++[[.val (.int .i64 k),cl]]:=by
 have hany:¬ (kvs.any fun r=>Z1 r == Xa k)=Xb:=by
  rw [UJ]
  rintro ⟨r,hr,hk⟩
  exact h r hr (by simpa using hk)
 rw [KZ,if_neg hany]
theorem Sim.mapTake {c:Ctx} {σ:Nat→AV} {tm:Array Value} {w:World} {lim:Nat→Nat} {X:Nat→Nat→Option Nat} (h:Sim c σ tm w lim X) {d:Nat} {e et:TypeId} {kvs:List (List AV)} (k:Int) (hd:σ d = .own Xb e [[.slice Xc 2 kvs]]) (h0:c.P.cellsOf e=0) (het:JD c.P (e-1048576)=Xa et) {T kt vt:TypeId}
  (hT:c.P.underlying T=Xa (.map kt vt)) (hkt:c.P.underlying kt=Xa (.int .i64)) (hz:(zeroValue vt).run c.P w = .ok (.slice Xe 0 0) w) :
  ∃ X' v ob ys,(Instr.lookup T (tm.getD d undef) (.int .i64 k) Xc).run c.P w = .ok v w∧Sim c (upd σ d (.own Xb e (Zcf [[.slice Xc 2 kvs]] k))) tm w lim X'∧ZY c.P w lim Xc et ys v ob∧ys=Zbl [[.slice Xc 2 kvs]] k∧
   ∀ b,ob=Xa b→(c.A b∨c.w0.heap.size≤b)∧∀ i j,X' i j≠Xa b:=by
 obtain ⟨hm,b,es,clock,hX,hv,hb,hlb,hl,hs,et',het',hr⟩:=Zee h hd h0 (by rw [het];rfl)
 rw [het] at het'
 cases het'
 have hdn:d < c.nt:=by
  rcases XD d c.nt with hlt | hge
  ·exact hlt
  ·have:=h.out d hge;rw [hd] at this;rcases this with h0 | h0<;>cases h0
 have hmo:=h.mp d e _ hd hm
 obtain ⟨hkeys,hfind⟩:=Ze0 hl hs hr k
 -- the map with its hole, whatever is taken out
 have hole:∀ (r:Nat→Option Nat),(∀ q,r q=X d q∨r q=Xe)→r 0=X d 0→(∀ (i:Nat) (en:MapEntry) (row:List AV),es[i]? = Xa en→kvs[i]? = Xa row→Z1 row≠Xa k→r (i+1)=X d (i+1))→
   Sim c (upd σ d (.own Xb e (Zcf [[.slice Xc 2 kvs]] k))) tm w lim (Ke X d r):=by
  intro r hr1 hr0 hr2
  have hsub:∀ q b',r q=Xa b'→X d q=Xa b':=fun q b' hq=>by
   rcases hr1 q with h1 | h1
   ·rw [← h1];exact hq
   ·rw [h1] at hq;cases hq
  refine h.putRow (hns:=fun k1 e1 xs1 b1 m1 m2 _=>by
   cases k1 with
   | zero =>
    simp only [Z5,Xf,Xo] at m1
    rw [← m1.1,Kp het] at m2
    cases m2
   | succ k1 => simp [Z5] at m1) (S := fun _ => False) r (ZU.refl w lim _) (fun _ hs => hs.elim) hdn rfl (fun _ _ => rfl) (.inl fun cs hcs => by rw [hd] at hcs; cases hcs) (fun i q hi hq => ⟨?_, ?_, fun b' hb' => .of rfl⟩) ?_
   (fun q b' hq=>⟨(h.ours d q b' (hsub q b' hq)).1,(h.ours d q b' (hsub q b' hq)).2,fun i j hij hx=>hij (h.dist i j d q b' hx (hsub q b' hq)).1⟩) (fun q q' b' hq hq'=>(h.dist d q d q' b' (hsub q b' hq) (hsub q' b' hq')).2) rfl ?_
  ·intro e1 xs1 ho
   rw [hd] at ho
   cases q with
   | zero => simp only [Zr, Xf, Xo] at ho; obtain ⟨rfl, rfl⟩ := ho; exact ⟨_, rfl, rfl⟩
   | succ q => cases ho
  ·obtain ⟨p,hp⟩:=Y9 h hq
   rw [hd] at hp
   cases q with
   | zero => exact hr0
   | succ q => cases hp
  ·show ZY c.P w lim Xb e _ _ (Ke X d r d 0)
   rw [Zo,hr0]
   exact .inr (.inr ⟨rfl,.inl ⟨hm,b,es,clock,kvs,et,het,hX,hv,hb,hlb,⟨_,rfl⟩,hl,hs,hr⟩⟩)
  ·intro e1 xs1 he
   injection he with _ h1 h2
   subst h1
   intro _ b1 es1 clock1 kvs1 tl1 et1 g0 g1 g2 g3 i en row g4 g5 g6
   rw [het] at g0
   cases g0
   rw [hr0,hX] at g1
   cases g1
   rw [hb] at g2
   cases g2
   rw [← h2] at g3
   simp only [Zcf,JY,List.cons.injEq,AV.slice.injEq,true_and,and_true] at g3
   obtain ⟨rfl,rfl⟩:=g3
   have hne:Z1 row≠Xa k:=by
    intro hk
    obtain ⟨z,ys,e1,_⟩:=hr i en row g4 g5
    rw [e1,W7] at hk
    cases hk
    exact g6 _ (XH.2 rfl) (by rw [e1];rfl)
   obtain ⟨z,ys,k1,k2⟩:=hmo b es clock kvs [] et het hX hb rfl i en row g4 g5 (by simp)
   exact ⟨z,ys,k1,by rw [hr2 i en row g4 g5 hne];exact k2⟩
 rcases hfind with ⟨h1,_,h2⟩ | ⟨j,en,row,h1,h2,h3,h4,h5,h6,h7⟩
 ·have hg:kvs.find? (fun r=>Z1 r == Xa k)=Xe:=Tv.2 fun r hr=>by simpa using h2 r hr
  refine ⟨_,.slice Xe 0 0,Xe,[],?_,hole (X d) (fun _=>.inl rfl) rfl (fun _ _ _ _ _ _=>rfl),.inl ⟨[],World.ownsRow_nil _ 0 et _,rfl,by simp,by simp,by simp,by simp⟩,by simp [Zbl,JY,hg],by simp⟩
  rw [hv]
  simp [Instr.lookup,run_underlying hT,MapKept.run_getObj_map hb,MapKept.run_checkKey hkt (Yf k),MapKept.run_findKey hkt h1,hz,Result.andThen]
 ·obtain ⟨z,ys,k3,k2⟩:=hmo b es clock kvs [] et het hX hb rfl j en row h2 h3 (by simp)
  refine ⟨_,en.val,X d (j+1),ys,?_,hole (fun q=>if q=j+1 then Xe else X d q) (fun q=>by by_cases hq:q=j+1;exact .inr (if_pos hq);exact .inl (if_neg hq)) (if_neg (by omega)) (fun i en' row' g1 g2 g3=>if_neg fun hij=>?_),k2,?_,fun b1 hb1=>⟨(h.ours d _ b1 hb1).2,fun i j' hij=>?_⟩⟩
  ·rw [hv]
   simp [Instr.lookup,run_underlying hT,MapKept.run_getObj_map hb,MapKept.run_checkKey hkt (Yf k),MapKept.run_findKey hkt h1,Result.andThen]
  ·have:i=j:=by omega
   subst this
   rw [h3] at g2
   cases g2
   exact g3 h5
  ·simp only [Zbl,JY,h6,k3,Zlm]
  ·by_cases hid:i=d
   ·subst hid
    rw [Zo] at hij
    split at hij
    ·cases hij
    ·rename_i hne
     exact hne (h.dist i j' i (j+1) b1 hij hb1).2
   ·rw [Zj X _ hid] at hij
    exact hid (h.dist i j' d (j+1) b1 hij hb1).1
theorem Sim.mapFill {c:Ctx} {σ:Nat→AV} {tm:Array Value} {w:World} {lim:Nat→Nat} {X:Nat→Nat→Option Nat} (h:Sim c σ tm w lim X) {d:Nat} {e et:TypeId} {kvs:List (List AV)} {tl:List AV} (k:Int) (hd:σ d = .own Xb e [.slice Xc 2 kvs::tl]) (h0:c.P.cellsOf e=0) (het:JD c.P (e-1048576)=Xa et) {T kt vt:TypeId}
  (hT:c.P.underlying T=Xa (.map kt vt)) (hkt:c.P.underlying kt=Xa (.int .i64)) (htl:∀ x∈tl,x = .val (.int .i64 k)) {v:Value} {ob:Option Nat} {ys:List (List AV)} (hv:ZY c.P w lim Xc et ys v ob)
  (ho:∀ b,ob=Xa b→(c.A b∨c.w0.heap.size≤b)∧∀ i j,X i j≠Xa b) :
  ∃ w' X',(Instr.mapUpdate T (tm.getD d undef) (.int .i64 k) v).run c.P w = .ok () w'∧Sim c (upd σ d (.own Xb e (Zd5 [.slice Xc 2 kvs::tl] k (c.P.cellsOf et) ys))) tm w' lim X':=by
 obtain ⟨hm,b,es,clock,hX,hvd,hb,hlb,hl,hs,et',het',hr⟩:=Zee h hd h0 (by rw [het];rfl)
 rw [het] at het'
 cases het'
 have hdn:d < c.nt:=by
  rcases XD d c.nt with hlt | hge
  ·exact hlt
  ·have:=h.out d hge;rw [hd] at this;rcases this with h0 | h0<;>cases h0
 have hmo:=h.mp d e _ hd hm
 obtain ⟨hkeys,hfind⟩:=Ze0 hl hs hr k
 have hvr:=ZY.rep hv Xc rfl
 -- the new entries and rows
 have fill:∀ (j:Nat) (es':Array MapEntry) (clock':Nat) (kvs':List (List AV)),es'.size=kvs'.length→Stamped es' clock'→(∃ en,es'[j]? = Xa en∧en.key = .int .i64 k∧en.val=v)→(∃ row,kvs'[j]? = Xa row∧row = [.val (.int .i64 k),.slice Xc (c.P.cellsOf et) ys])→
   (∀ (i:Nat) (en:MapEntry) (row:List AV),i≠j→es'[i]? = Xa en→kvs'[i]? = Xa row→es[i]? = Xa en∧kvs[i]? = Xa row∧Z1 row≠Xa k)→
   Sim c (upd σ d (.own Xb e [[.slice Xc 2 kvs']])) tm (Kd w b (.map es' clock')) lim (Ke X d fun q=>if q=j+1 then ob else X d q):=by
  intro j es' clock' kvs' g1 g2 g3 g4 g5
  obtain ⟨en0,g31,g32,g33⟩:=g3
  obtain ⟨row0,g41,g42⟩:=g4
  have hstep:=Zbk (es':=es') (clock':=clock') hb hlb
  have hrows:∀ (i:Nat) (en:MapEntry) (row:List AV),es'[i]? = Xa en→kvs'[i]? = Xa row→Zer c.P (Kd w b (.map es' clock')) lim et en row:=by
   intro i en row m1 m2
   by_cases hij:i=j
   ·subst hij
    rw [g31] at m1
    rw [g41] at m2
    cases m1
    cases m2
    exact ⟨k,ys,g42,g32,by rw [g33];exact hvr.mono hstep.ext⟩
   ·obtain ⟨n1,n2,_⟩:=g5 i en row hij m1 m2
    obtain ⟨z,zs,p1,p2,p3⟩:=hr i en row n1 n2
    exact ⟨z,zs,p1,p2,p3.mono hstep.ext⟩
  have hsplit:∀ q b',(if q=j+1 then ob else X d q)=Xa b'→(q=j+1∧ob=Xa b')∨(q≠j+1∧X d q=Xa b'):=fun q b' hq=>by
   by_cases hqj:q=j+1
   ·rw [if_pos hqj] at hq;exact .inl ⟨hqj,hq⟩
   ·rw [if_neg hqj] at hq;exact .inr ⟨hqj,hq⟩
  have hobb:ob≠Xa b:=fun hc=>(ho b hc).2 d 0 hX
  refine h.putRow (hns:=fun k1 e1 xs1 b1 m1 m2 _=>by
   cases k1 with
   | zero =>
    simp only [Z5,Xf,Xo] at m1
    rw [← m1.1,Kp het] at m2
    cases m2
   | succ k1 => simp [Z5] at m1) (S := fun b' => b' = b) (fun q => if q = j + 1 then ob else X d q) hstep (fun b' hb' => ⟨0, by rw [hb']; exact hX⟩) hdn rfl (fun _ _ => rfl) (.inl fun cs hcs => by rw [hd] at hcs; cases hcs) (fun i q hi hq => ⟨?_, ?_, fun b' hb' => ?_⟩) ?_
   (fun q b' hq=>?_) (fun q q' b' hq hq'=>?_) rfl ?_
  ·intro e1 xs1 hoa
   rw [hd] at hoa
   cases q with
   | zero => simp only [Zr, Xf, Xo] at hoa; obtain ⟨rfl, rfl⟩ := hoa; exact ⟨_, rfl, rfl⟩
   | succ q => cases hoa
  ·obtain ⟨p,hp⟩:=Y9 h hq
   rw [hd] at hp
   cases q with
   | zero => exact if_neg (by omega)
   | succ q => cases hp
  ·by_cases hbb:b'=b
   ·subst hbb
    refine ⟨fun arr t m=>?_,fun es1 clock1 _=>⟨es',clock',YW hb⟩⟩
    rw [hb] at m;cases m
   ·exact .of (J2 hbb)
  ·show ZY c.P _ lim Xb e _ _ (Ke X d _ d 0)
   rw [Zo]
   refine .inr (.inr ⟨rfl,.inl ⟨hm,b,es',clock',kvs',et,het,?_,hvd,YW hb,hlb,⟨_,rfl⟩,g1,g2,hrows⟩⟩)
   rw [if_neg (by omega)]
   exact hX
  ·rcases hsplit q b' hq with ⟨_,h1⟩ | ⟨_,h1⟩
   ·refine ⟨XO ?_ hstep.size,(ho b' h1).1,fun i jj _ hx=>(ho b' h1).2 i jj hx⟩
    have:=hv
    rw [h1] at this
    exact this.lt
   ·exact ⟨XO (h.ours d q b' h1).1 hstep.size,(h.ours d q b' h1).2,fun i jj hij hx=>hij (h.dist i jj d q b' hx h1).1⟩
  ·rcases hsplit q b' hq with ⟨h1,h2⟩ | ⟨_,h2⟩ <;> rcases hsplit q' b' hq' with ⟨h3,h4⟩ | ⟨_,h4⟩
   ·omega
   ·exact ((ho b' h2).2 d q' h4).elim
   ·exact ((ho b' h4).2 d q h2).elim
   ·exact (h.dist d q d q' b' h2 h4).2
  ·intro e1 xs1 he
   injection he with _ h1 h2
   subst h1
   intro _ b1 es1 clock1 kvs1 tl1 et1 m0 m1 m2 m3 i en row m4 m5 m6
   rw [het] at m0
   cases m0
   have m1':X d 0=Xa b1:=by have:=m1;dsimp only at this;rwa [if_neg (by omega)] at this
   rw [hX] at m1'
   cases m1'
   rw [YW hb] at m2
   cases m2
   rw [← h2] at m3
   simp only [List.cons.injEq,AV.slice.injEq,true_and,and_true] at m3
   obtain ⟨rfl,rfl⟩:=m3
   by_cases hij:i=j
   ·subst hij
    rw [g31] at m4
    rw [g41] at m5
    cases m4
    cases m5
    refine ⟨k,ys,g42,?_⟩
    show ZY c.P _ lim Xc et ys en0.val (if i+1=i+1 then ob else X d (i+1))
    rw [if_pos rfl,g33]
    exact hv.mono hstep.ext fun b1 hb1=>⟨J2 fun hc=>hobb (by rw [hb1,hc]),rfl⟩
   ·obtain ⟨n1,n2,n3⟩:=g5 i en row hij m4 m5
    obtain ⟨z,zs,p1,p2⟩:=hmo b es clock kvs tl et het hX hb rfl i en row n1 n2 (fun x hx hc=>by
     rw [htl x hx] at hc
     cases row with
     | nil => cases hc
     | cons y row => simp only [List.head?_cons, Xf] at hc; subst hc; exact n3 rfl)
    refine ⟨z,zs,p1,?_⟩
    show ZY c.P _ lim Xc et zs en.val (if i+1=j+1 then ob else X d (i+1))
    rw [if_neg (by omega)]
    exact p2.mono hstep.ext fun b1 hb1=>⟨J2 fun hc=>by subst hc;have:=(h.dist d (i+1) d 0 b1 hb1 hX).2;omega,rfl⟩
 rcases hfind with ⟨h1,h2,h3⟩ | ⟨j,en,row,h1,h2,h3,h4,h5,h6,h7⟩
 ·refine ⟨Kd w b (.map (es.push ⟨.int .i64 k,v,clock⟩) (clock+1)),Ke X d (fun q=>if q=es.size+1 then ob else X d q),?_,?_⟩
  rotate_left
  ·have:=fill es.size (es.push ⟨.int .i64 k,v,clock⟩) (clock+1) (kvs++[[.val (.int .i64 k),.slice Xc (c.P.cellsOf et) ys]]) (by simp [hl]) (stamped_push hs h2) ⟨⟨.int .i64 k,v,clock⟩,by simp,rfl,rfl⟩ ⟨[.val (.int .i64 k),.slice Xc (c.P.cellsOf et) ys],by rw [hl];simp,rfl⟩ (fun i en row hi m1 m2=>?_)
   ·simp only [Zd5,JY,Zk0 h3]
    exact this
   ·have hlt:i < es.size:=by
     have:=(Ua.1 m1).1
     simp at this
     omega
    rw [Array.getElem?_push,if_neg (by omega)] at m1
    rw [XE (by omega)] at m2
    exact ⟨m1,m2,h3 row (Xj m2)⟩
  ·rw [hvd]
   simp [Instr.mapUpdate,run_underlying hT,MapKept.run_getObj_map hb,MapKept.run_checkKey hkt (Yf k),MapKept.run_findKey hkt h1,MapKept.run_setObj_map _ hb,Result.andThen,Kd]
 ·have hj:es[j]? = Xa en:=h2
  have hjl:j < es.size:=(Ua.1 h2).1
  have hkeyf:∀ e',es[j]? = Xa e'→({ e' with key:=.int .i64 k,val:=v } : MapEntry).key=e'.key:=fun e' he'=>by rw [hj] at he';cases he';exact h4.symm
  refine ⟨Kd w b (.map (es.modify j fun e'=>{ e' with key:=.int .i64 k,val:=v }) clock),Ke X d (fun q=>if q=j+1 then ob else X d q),?_,?_⟩
  rotate_left
  ·have:=fill j (es.modify j fun e'=>{ e' with key:=.int .i64 k,val:=v }) clock (KZ kvs k (.slice Xc (c.P.cellsOf et) ys)) (by rw [Array.size_modify,hl,Zie h3 h5]) (stamped_modify hs _ _ (fun _ _=>rfl) (fun e' _ he'=>hkeyf e' he')) ⟨{ en with key:=.int .i64 k,val:=v },by simp [Tl,hj],rfl,rfl⟩ ?_ (fun i en' row' hi m1 m2=>?_)
   ·simp only [Zd5,JY]
    exact this
   ·have hlen:=Zie (cl:=.slice Xc (c.P.cellsOf et) ys) h3 h5
    have hjk:j < (KZ kvs k (.slice Xc (c.P.cellsOf et) ys)).length:=by omega
    have:=Ze4 (cl:=.slice Xc (c.P.cellsOf et) ys) h3 h5 h7 j _ (Xq hjk)
    rw [if_pos rfl] at this
    exact ⟨_,Xq hjk,this⟩
   ·have m3:=Ze4 h3 h5 h7 i row' m2
    rw [if_neg hi] at m3
    rw [Tl,if_neg (by omega)] at m1
    exact ⟨m1,m3⟩
  ·rw [hvd]
   simp [Instr.mapUpdate,run_underlying hT,MapKept.run_getObj_map hb,MapKept.run_checkKey hkt (Yf k),MapKept.run_findKey hkt h1,hj,h4,MapKept.run_keyThatStays (Yf k),MapKept.run_setObj_map _ hb,Result.andThen,Kd]
theorem Wo {P:Program} {T et:TypeId} (h:JD P T=Xa et):∃ kt vt,P.underlying T=Xa (.map kt vt)∧P.underlying kt=Xa (.int .i64)∧P.underlying vt=Xa (.slice et):=by
 unfold JD at h
 split at h
 ·rename_i kt vt hT
  split at h
  ·rename_i et' h1 h2
   cases h
   exact ⟨kt,vt,hT,h1,h2⟩
  ·cases h
 ·cases h
theorem Zjj {P:Program} {T kt vt:TypeId} (hT:P.underlying T=Xa (.map kt vt)) (h:ZsN P T=Xb) (w:World):(zeroValue vt).run P w = .ok (.slice Xe 0 0) w:=by
 unfold ZsN at h
 rw [hT] at h
 dsimp only at h
 split at h
 ·rename_i i hi
  split at h
  ·rename_i hz
   simp [zeroValue,typeInfo,run_program,hi,hz]
  ·cases h
 ·cases h
theorem ZgN {w:World} {lim:Nat→Nat} (o:Obj) (S:Nat→Prop):ZU w lim (w.alloc o) (fun b=>if b=w.heap.size then 0 else lim b) S where
 os:=rfl
 tape:=rfl
 output:=rfl
 size:=by simp
 frz a ha:=by
  unfold World.frozen?
  rw [heap_alloc_old w o ha]
 blk b hb _:=⟨heap_alloc_old w o hb,if_neg (by omega)⟩
 ext b hb:=⟨by show lim b≤if b=w.heap.size then 0 else lim b;rw [if_neg (by omega)];exact XA _,fun o' u _ hu=>by
  unfold World.cell? at hu ⊢
  rw [heap_alloc_old w o hb]
  exact hu⟩
theorem ZfX {P:Program} {o:Oper} {σ:Nat→AV} {T et:TypeId} (ho:o.op = .makeMap T Xe) (hT:JD P T=Xa et):JO P o σ (.own Xb (T+1048576) [[.slice Xc 2 []]]) [] []:=by
 intro c hc σ' tm w lim X hid hag hsim next Q hn
 have hstep:=ZgN (w:=w) (lim:=lim) (.map #[] 0) (fun _=>False)
 have hw2:=hsim.world hstep fun _ hs=>hs.elim
 have hnew:(w.alloc (.map #[] 0)).heap[w.heap.size]? = Xa (.map #[] 0):=heap_alloc_new w _
 refine Zs (v:=.map (Xa w.heap.size)) (w':=w.alloc (.map #[] 0)) ?_ (hn _ _ (Z3 (ob:=Xa w.heap.size) hw2 (.inr (.inr ⟨rfl,.inl ⟨by simp [Zk],w.heap.size,#[],0,[],et,by rw [X5,hc];exact hT,rfl,rfl,hnew,if_pos rfl,⟨_,rfl⟩,rfl,stamped_empty 0,fun i en row h=>by simp at h⟩⟩)) (fun b hb=>?_) (fun _=>.mv (.inr (.inr (.inl rfl)))) fun _ hd=>by rw [Kp (et:=et) (by rw [X5,hc];exact hT)] at hd;cases hd))
 ·have hr:(Instr.makeMap T Xe).run P w = .ok (.map (Xa w.heap.size)) (w.alloc (.map #[] 0)):=rfl
  simp only [execOp,ho,Option.map_none,hr,Sem.run_bind,Result.andThen_ok,Sem.run_pure]
 ·cases hb
  exact ⟨.inr hsim.frm.size,fun i j=>Kh hsim i j⟩
theorem Zio {P:Program} {o:Oper} {σ:Nat→AV} {T et e:TypeId} {m kx:Operand} {d:Nat} {kvs:List (List AV)} {tl:List AV} {k:Int} (ho:o.op = .lookup T m kx Xc) (hT:JD P T=Xa et) (hz:ZsN P T=Xb) (hm:Zt P σ m = .mref d 0) (hd:σ d = .own Xb e [.slice Xc 2 kvs::tl]) (h0:P.cellsOf e=0) (he:e=T+1048576)
  (hk:Zt P σ kx = .val (.int .i64 k)):JO P o σ (.slice Xc (P.cellsOf et) (Zbl [.slice Xc 2 kvs::tl] k)) [] [d]:=by
 refine ZK [d] rfl fun c hc σ' tm w lim X hg hfp hsim=>?_
 rw [ho] at hg
 have hv:=Yj hc hsim hm (hg m (by simp [Op.operands]))
 have hkv:=Jh hc hsim hk (hg kx (by simp [Op.operands]))
 have hd':σ' d = .own Xb e [.slice Xc 2 kvs::tl]:=by rw [hfp d (by simp),hd]
 rw [← hc] at hv
 have hmv:=Zai hsim hd' (by rw [hc];exact h0) (by rw [he,X5,hc,hT];rfl) hv
 obtain ⟨_,b,es,clock,hX,hvd,hb,hlb,hl,hs,et',het',hr⟩:=Zee hsim hd' (by rw [hc];exact h0) (by rw [he,X5,hc,hT];rfl)
 rw [he,X5,hc,hT] at het'
 cases het'
 rw [hc] at hr
 obtain ⟨kt,vt,hT1,hkt,hvt⟩:=Wo hT
 obtain ⟨_,hfind⟩:=Ze0 hl hs hr k
 have hzr:=Zjj hT1 hz w
 rcases hfind with ⟨h1,_,h2⟩ | ⟨j,en,row,h1,h2,h3,h4,h5,h6,h7⟩
 ·have hgn:kvs.find? (fun r=>Z1 r == Xa k)=Xe:=Tv.2 fun r hr=>by simpa using h2 r hr
  refine ⟨.slice Xe 0 0,?_,?_⟩
  ·simp [execOp,ho,hmv,hvd,hkv,Instr.lookup,run_underlying hT1,MapKept.run_getObj_map hb,MapKept.run_checkKey hkt (Yf k),MapKept.run_findKey hkt h1,hzr,Result.andThen]
  ·simp only [Zbl,JY,hgn]
   exact .sliceN
 ·obtain ⟨z,ys,p1,p2,p3⟩:=hr j en row h2 h3
  refine ⟨en.val,?_,?_⟩
  ·simp [execOp,ho,hmv,hvd,hkv,Instr.lookup,run_underlying hT1,MapKept.run_getObj_map hb,MapKept.run_checkKey hkt (Yf k),MapKept.run_findKey hkt h1,Result.andThen]
  ·simp only [Zbl,JY,h6,p1,Zlm]
   exact p3
theorem ZbC {P:Program} {o:Oper} {σ:Nat→AV} {T et e:TypeId} {m kx:Operand} {d:Nat} {kvs:List (List AV)} {k:Int} (ho:o.op = .lookup T m kx Xc) (hT:JD P T=Xa et) (hz:ZsN P T=Xb) (hm:Zt P σ m = .mref d 0) (hd:σ d = .own Xb e [[.slice Xc 2 kvs]]) (h0:P.cellsOf e=0) (he:e=T+1048576)
  (hk:Zt P σ kx = .val (.int .i64 k)):JO P o σ (.own Xc et (Zbl [[.slice Xc 2 kvs]] k)) [(d,.own Xb e (Zcf [[.slice Xc 2 kvs]] k))] []:=by
 intro c hc σ' tm w lim X hid hag hsim next Q hn
 have hg:∀ y∈o.op.operands,Zt P σ' y=Zt P σ y:=fun y hy=>ZJ fun t ht=>hid t (by simp [Zw hy ht])
 rw [ho] at hg
 have hv:=Yj hc hsim hm (hg m (by simp [Op.operands]))
 have hkv:=Jh hc hsim hk (hg kx (by simp [Op.operands]))
 have hd':σ' d = .own Xb e [[.slice Xc 2 kvs]]:=by rw [hag d (by simp),hd]
 rw [← hc] at hv
 have hmv:=Zai hsim hd' (by rw [hc];exact h0) (by rw [he,X5,hc,hT];rfl) hv
 obtain ⟨kt,vt,hT1,hkt,hvt⟩:=Wo hT
 obtain ⟨X',v,ob,ys,r1,r2,r3,r4,r5⟩:=hsim.mapTake (et:=et) k hd' (by rw [hc];exact h0) (by rw [he,X5,hc];exact hT) (by rw [hc];exact hT1) (by rw [hc];exact hkt) (by rw [hc];exact Zjj hT1 hz w)
 rw [hc] at r1
 subst r4
 refine Zs (v:=v) (w':=w) ?_ (hn v w (Z3 r2 r3 r5 (fun h=>by cases h) fun h=>by cases h))
 simp only [execOp,ho,hmv,hkv,r1,Sem.run_bind,Result.andThen_ok,Sem.run_pure]
theorem Zif {P:Program} {o:Oper} {σ:Nat→AV} {T et e:TypeId} {m kx:Operand} {d t:Nat} {kvs ys:List (List AV)} {tl:List AV} {k:Int} (ho:o.op = .insert T m kx (.tmp t)∨o.op = .mapUpdate T m kx (.tmp t)) (hT:JD P T=Xa et) (hm:Zt P σ m = .mref d 0) (hd:σ d = .own Xb e [.slice Xc 2 kvs::tl]) (h0:P.cellsOf e=0) (he:e=T+1048576)
  (hk:Zt P σ kx = .val (.int .i64 k)) (htl:∀ x∈tl,x = .val (.int .i64 k)) (ht:σ t = .own Xc et ys):JO P o σ .dead [(t,.slice Xc (P.cellsOf et) ys),(d,.own Xb e (Zd5 [.slice Xc 2 kvs::tl] k (P.cellsOf et) ys))] []:=by
 intro c hc σ' tm w lim X hid hag hsim next Q hn
 have hg:∀ y∈o.op.operands,Zt P σ' y=Zt P σ y:=fun y hy=>ZJ fun t ht=>hid t (by simp [Zw hy ht])
 have hgm:=hg m (by rcases ho with ho | ho<;>rw [ho]<;>simp [Op.operands])
 have hgk:=hg kx (by rcases ho with ho | ho<;>rw [ho]<;>simp [Op.operands])
 have hv:=Yj hc hsim hm hgm
 have hkv:=Jh hc hsim hk hgk
 have hd':σ' d = .own Xb e [.slice Xc 2 kvs::tl]:=by rw [hag d (by simp),hd]
 have ht':σ' t = .own Xc et ys:=by rw [hag t (by simp),ht]
 have htd:t≠d:=fun h=>by rw [h,hd'] at ht';cases ht'
 rw [← hc] at hv
 have hmv:=Zai hsim hd' (by rw [hc];exact h0) (by rw [he,X5,hc,hT];rfl) hv
 obtain ⟨kt,vt,hT1,hkt,hvt⟩:=Wo hT
 obtain ⟨f1,f2,f3⟩:=hsim.free ht' (hsim.noRefs fun q=>by rw [ht'];cases q<;>rfl)
 have hd2:upd σ' t (K8 c.P Xc et ys) d = .own Xb e [.slice Xc 2 kvs::tl]:=by rw [Zf _ _ (Ne.symm htd)];exact hd'
 obtain ⟨w',X',r1,r2⟩:=f1.mapFill (et:=et) k hd2 (by rw [hc];exact h0) (by rw [he,X5,hc];exact hT) (by rw [hc];exact hT1) (by rw [hc];exact hkt) htl f2 f3
 rw [hc] at r1
 refine JU (w':=w') ?_ (hn undef w' ?_)
 ·have hev:Act.eval ⟨tm,[]⟩ (.tmp t)=tm.getD t undef:=rfl
  rcases ho with ho | ho<;>simp only [execOp,ho,hmv,hkv,hev,r1,Sem.run_bind,Result.andThen_ok,Sem.run_pure]
 ·rw [← hc]
  exact ZE r2 rfl (k:=0) trivial
theorem ZdA {P:Program} {o:Oper} {σ:Nat→AV} {T et e:TypeId} {m kx vx:Operand} {d s:Nat} {kvs:List (List AV)} {tl:List AV} {k:Int} (ho:o.op = .insert T m kx vx∨o.op = .mapUpdate T m kx vx) (hT:JD P T=Xa et) (hm:Zt P σ m = .mref d 0) (hd:σ d = .own Xb e [.slice Xc 2 kvs::tl]) (h0:P.cellsOf e=0) (he:e=T+1048576)
  (hk:Zt P σ kx = .val (.int .i64 k)) (htl:∀ x∈tl,x = .val (.int .i64 k)) (hvx:Zt P σ vx = .slice Xb s []):JO P o σ .dead [(d,.own Xb e (Zd5 [.slice Xc 2 kvs::tl] k (P.cellsOf et) []))] []:=by
 intro c hc σ' tm w lim X hid hag hsim next Q hn
 have hg:∀ y∈o.op.operands,Zt P σ' y=Zt P σ y:=fun y hy=>ZJ fun t ht=>hid t (by simp [Zw hy ht])
 have hgm:=hg m (by rcases ho with ho | ho<;>rw [ho]<;>simp [Op.operands])
 have hgk:=hg kx (by rcases ho with ho | ho<;>rw [ho]<;>simp [Op.operands])
 have hgv:=hg vx (by rcases ho with ho | ho<;>rw [ho]<;>simp [Op.operands])
 have hv:=Yj hc hsim hm hgm
 have hkv:=Jh hc hsim hk hgk
 have hvv:Rep w lim (.slice Xb s []) (Act.eval ⟨tm,[]⟩ vx):=Yj hc hsim hvx hgv
 have hd':σ' d = .own Xb e [.slice Xc 2 kvs::tl]:=by rw [hag d (by simp),hd]
 rw [← hc] at hv
 have hmv:=Zai hsim hd' (by rw [hc];exact h0) (by rw [he,X5,hc,hT];rfl) hv
 obtain ⟨kt,vt,hT1,hkt,hvt⟩:=Wo hT
 have hown:ZY c.P w lim Xc et [] (Act.eval ⟨tm,[]⟩ vx) Xe:=by
  generalize Act.eval ⟨tm,[]⟩ vx=v at hvv
  cases hvv with
  | sliceN => exact .inl ⟨[], World.ownsRow_nil _ 0 et _, rfl, by simp, by simp, by simp, by simp⟩
  | sliceE hf => rw [hf rfl]; exact .inr (.inl ⟨rfl, rfl, _, rfl⟩)
  | sliceC hs1 hc1 hf1 hle1 hl1 hus1 hcl1 h1 => rw [hf1 rfl]; exact .inr (.inl ⟨rfl, rfl, _, rfl⟩)
 obtain ⟨w',X',r1,r2⟩:=hsim.mapFill (et:=et) k hd' (by rw [hc];exact h0) (by rw [he,X5,hc];exact hT) (by rw [hc];exact hT1) (by rw [hc];exact hkt) htl hown (fun b hb=>by cases hb)
 rw [hc] at r1
 refine JU (w':=w') ?_ (hn undef w' ?_)
 ·rcases ho with ho | ho<;>simp only [execOp,ho,hmv,hkv,r1,Sem.run_bind,Result.andThen_ok,Sem.run_pure]
 ·rw [← hc]
  exact ZE r2 rfl (k:=0) trivial
def Zro (x:MapEntry):Int:=match x.key with | .int _ z=>z | _=>0
def Zas (P:Program) (ks:List (FuncId×FuncId×FuncId)):Prop:=
 ∀ p∈ks,Callable P p.1∧Callable P p.2.1∧
  (∀ (b:Nat) (w:World),Calls P p.1 #[.map (Xa b)] w fun e w'=>e = .returned (.func (.func p.2.2) #[] #[.pointer (Xa ⟨w.heap.size,0,Xe⟩)])∧∃ T,w'=w.alloc (.cells #[.map (Xa b)] T))∧
  ∀ (w:World) (B b:Nat) (es:Array MapEntry) (clock:Nat),w.cell? ⟨B,0,Xe⟩=Xa (.map (Xa b))→w.heap[b]? = Xa (.map es clock)→Stamped es clock→es.size≤1048576→
   (∀ x∈es.toList,∃ z:Int,x.key = .int .i64 z∧-9223372036854775808≤z∧z≤9223372036854775807)→
   Calls P p.2.1 #[.func (.func p.2.2) #[] #[.pointer (Xa ⟨B,0,Xe⟩)]] w fun e w'=>∃ v et,e = .returned v∧
    w'.ownsRow w.heap.size et 1 v es.size (((es.toList.map Zro).mergeSort fun x y=>decide (x≤y)).map (Value.int .i64))∧Below w.heap.size w w'
theorem Zdk {w w':World} {lim:Nat→Nat} {N:Nat} (h:Below w.heap.size w w') (S:Nat→Prop):ZU w lim w' (fun b=>if b < w.heap.size then lim b else N) S where
 os:=h.os
 tape:=h.tape
 output:=h.output
 size:=h.size
 frz a ha:=by
  unfold World.frozen?
  rw [h.block _ ha]
 blk b hb _:=⟨h.block b hb,if_pos hb⟩
 ext b hb:=⟨by dsimp only;rw [if_pos hb];exact XA _,fun o' u _ hu=>by
  unfold World.cell? at hu ⊢
  rw [h.block b hb]
  exact hu⟩
theorem Zb0 {P:Program} {o:Oper} {cl:Call} {f:FuncId} {x:Operand} {tm:Array Value} {w:World} {v:Value} (ho:o.op = .call cl) (hcl:cl.callee = .value (.func f)) (hargs:cl.args.toList = [x]) (hf:Callable P f) (hv:Act.eval ⟨tm,[]⟩ x=v) :
  (execOp (Act.eval ⟨tm,[]⟩) o).run P w = .ok (.enter f #[v]) w:=by
 obtain ⟨fn,hfn,hname,hbody⟩:=hf
 have hargs':cl.args = #[x]:=by apply XR.1;rw [hargs]
 have hev:Act.eval ⟨tm,[]⟩ (.func f) = .func (.func f) #[] #[]:=rfl
 simp only [execOp,ho,Sem.run_bind,resolve,hcl,hev,Deferred.ofValue,Sem.run_pure,Result.andThen_ok,hargs',invoke,callFunc,run_program,hfn,hname,hbody]
 simp [hv]
theorem Zlq {P:Program} {o:Oper} {σ:Nat→AV} {ks:List (FuncId×FuncId×FuncId)} {p:FuncId×FuncId×FuncId} {cl:Call} {x:Operand} {d:Nat} {e:TypeId} {kvs:List (List AV)} {tl:List AV} (hks:Zas P ks) (hp:p∈ks) (ho:o.op = .call cl) (hcl:cl.callee = .value (.func p.1)) (hargs:cl.args.toList = [x])
  (hx:Zt P σ x = .mref d 0) (hd:σ d = .own Xb e [.slice Xc 2 kvs::tl]) (h0:P.cellsOf e=0) (hks':(JD P (e-1048576)).isSome=Xb):JO P o σ (.eref d 0 p.2.2) [] [d]:=by
 intro c hc σ' tm w lim X hid hag hsim next Q hn
 have hargs':cl.args = #[x]:=by apply XR.1;rw [hargs]
 have hgx:Zt P σ' x=Zt P σ x:=ZJ fun t ht=>hid t (Zw (x:=x) (by rw [ho];simp [Op.operands,Call.operands,hcl,hargs']) ht)
 have hv:=Yj hc hsim hx hgx
 have hd':σ' d = .own Xb e [.slice Xc 2 kvs::tl]:=by rw [hag d (by simp),hd]
 rw [← hc] at hv
 have hmv:=Zai hsim hd' (by rw [hc];exact h0) (by rw [hc];exact hks') hv
 obtain ⟨hm,b,es,clock,hX,hvd,hb,hlb,hl,hs,et',het',hr⟩:=Zee hsim hd' (by rw [hc];exact h0) (by rw [hc];exact hks')
 obtain ⟨k1,_,k3,_⟩:=hks p hp
 unfold Oper.wp
 rw [Zb0 ho hcl hargs k1 (hmv.trans hvd),Oper.upon_enter]
 refine (k3 b w).mono ?_
 rintro e1 w' ⟨rfl,T,rfl⟩
 refine hn _ _ ?_
 have hstep:ZU w lim (w.alloc (.cells #[.map (Xa b)] T)) (fun b'=>if b' < w.heap.size then lim b' else 1) (fun _=>False):=Zdk ((Below.refl _ w).alloc (XA _) _) _
 have hw2:=hsim.world hstep fun _ hs=>hs.elim
 refine ZE hw2 rfl (k:=0) ⟨b,e,_,by show Zr (σ' d) 0=_;rw [hd'];rfl,hX,.inr ⟨hm,(by rw [hc];exact Zaj hks'),w.heap.size,rfl,?_,?_⟩⟩
 ·show 0 < if w.heap.size < w.heap.size then lim w.heap.size else 1
  rw [if_neg (by omega)]
  exact Nat.one_pos
 ·have:(w.alloc (.cells #[.map (Xa b)] T)).heap[w.heap.size]? = Xa (.cells #[.map (Xa b)] T (0,0)):=heap_alloc_new w _
  simp only [World.cell?,this]
  rfl
theorem ZfU {P:Program} {w:World} {lim:Nat→Nat} {et:TypeId} : ∀ (es:List MapEntry) (kvs:List (List AV)),es.length=kvs.length→(∀ (i:Nat) (en:MapEntry) (row:List AV),es[i]? = Xa en→kvs[i]? = Xa row→Zer P w lim et en row)→kvs.filterMap Z1=es.map Zro
 | [], [], _, _ => rfl
 | en :: es, row :: kvs, hl, h => by
  obtain ⟨z,ys,h1,h2,_⟩:=h 0 en row rfl rfl
  have hk:Zro en=z:=by simp [Zro,h2]
  rw [UP,h1,W7,Xk,hk,ZfU es kvs (by simpa using hl) fun i e r g1 g2=>h (i+1) e r g1 g2]
 | [], _ :: _, hl, _ => by simp at hl
 | _ :: _, [], hl, _ => by simp at hl
theorem Zdg:∀ (zs:List Int),(zs.map fun z=>[AV.val (.int .i64 z)]).flatten=zs.map fun z=>AV.val (.int .i64 z)
 | [] => rfl
 | z :: zs => by rw [Xk, Uo, Zdg zs]; rfl
theorem ZhG {P:Program} {o:Oper} {σ:Nat→AV} {ks:List (FuncId×FuncId×FuncId)} {p:FuncId×FuncId×FuncId} {cl:Call} {x:Operand} {d:Nat} {e:TypeId} {kvs:List (List AV)} (hks:Zas P ks) (hp:p∈ks) (ho:o.op = .call cl) (hcl:cl.callee = .value (.func p.2.1)) (hargs:cl.args.toList = [x])
  (hx:Zt P σ x = .eref d 0 p.2.2) (hd:σ d = .own Xb e [[.slice Xc 2 kvs]]) (h0:P.cellsOf e=0) (hks':(JD P (e-1048576)).isSome=Xb) (hlen:kvs.length≤1048576) (hfine:∀ r∈kvs,Zc2 r=Xb):JO P o σ (.slice Xc 1 (Zca [[.slice Xc 2 kvs]])) [] [d]:=by
 intro c hc σ' tm w lim X hid hag hsim next Q hn
 have hargs':cl.args = #[x]:=by apply XR.1;rw [hargs]
 have hgx:Zt P σ' x=Zt P σ x:=ZJ fun t ht=>hid t (Zw (x:=x) (by rw [ho];simp [Op.operands,Call.operands,hcl,hargs']) ht)
 have hv:=Yj hc hsim hx hgx
 have hd':σ' d = .own Xb e [[.slice Xc 2 kvs]]:=by rw [hag d (by simp),hd]
 rw [← hc] at hv
 obtain ⟨hm,b,es,clock,hX,hvd,hb,hlb,hl,hs,et',het',hr⟩:=Zee hsim hd' (by rw [hc];exact h0) (by rw [hc];exact hks')
 obtain ⟨b',e',xs',m1,m2,m3⟩:=hv
 rw [hd'] at m1
 simp only [Zr,Xf,Xo] at m1
 obtain ⟨rfl,rfl⟩:=m1
 rw [hX] at m2
 cases m2
 rcases m3 with ⟨m3 | m3,_⟩ | ⟨_,_,B,hvx,hlB,hcB⟩
 ·rw [hm] at m3;cases m3
 ·rw [hc,Zaj hks'] at m3;cases m3
 obtain ⟨_,k2,_,k4⟩:=hks p hp
 unfold Oper.wp
 rw [Zb0 ho hcl hargs k2 hvx,Oper.upon_enter]
 have hrow:∀ i (hi:i < es.size),∃ row,kvs[i]? = Xa row∧Zer c.P w lim et' es[i] row:=fun i hi=>⟨kvs[i]'(by omega),Xq _,hr i _ _ (X8 hi) (Xq _)⟩
 refine (k4 w B b es clock hcB hb hs (by omega) fun y hy=>?_).mono ?_
 ·obtain ⟨i,hi,rfl⟩:=List.mem_iff_getElem.1 hy
  have hi':i < es.size:=by simpa using hi
  obtain ⟨row,h1,z,ys,h2,h3,_⟩:=hrow i hi'
  have hf:=hfine row (Xj h1)
  rw [h2] at hf
  simp only [Zc2,W7,Xx,decide_eq_true_eq] at hf
  have:es.toList[i]=es[i]:=by simp
  exact ⟨z,by rw [this];exact h3,hf.1,hf.2⟩
 ·rintro e1 w' ⟨v,et,rfl,hown,hbel⟩
  refine hn _ _ ?_
  have hstep:ZU w lim w' (fun b'=>if b' < w.heap.size then lim b' else es.size) (fun _=>False):=Zdk hbel _
  have hw2:=hsim.world hstep fun _ hs=>hs.elim
  refine ZE hw2 rfl (k:=0) ?_
  have hks':kvs.filterMap Z1=es.toList.map Zro:=ZfU es.toList kvs (by simpa using hl) fun i en row g1 g2=>hr i en row (by simpa using g1) g2
  show Rep w' _ (.slice Xc 1 (Zca [[.slice Xc 2 kvs]])) v
  have hmk:Zca [[.slice Xc 2 kvs]]=((es.toList.map Zro).mergeSort fun x y=>decide (x≤y)).map fun z=>[.val (.int .i64 z)]:=by simp only [Zca,JY,hks']
  rw [hmk]
  generalize hz:(es.toList.map Zro).mergeSort (fun x y=>decide (x≤y))=zs at hown
  have hzl:zs.length=es.size:=by rw [← hz];simp
  rcases hown.2 with ⟨rfl,hn0⟩ | ⟨g,cap,cur,rfl,hbg,hg,hnc,hcm,hcs,htake⟩
  ·have:zs = []:=Ub (by omega)
   subst this
   exact .sliceN
  ·rw [← hzl] at hnc ⊢
   have hl2:(zs.map fun z=>[AV.val (.int .i64 z)]).length=zs.length:=by simp
   have hfl:(zs.map fun z=>[AV.val (.int .i64 z)]).flatten=zs.map fun z=>AV.val (.int .i64 z):=by
    exact Zdg zs
   have key:=Rep.sliceC (w:=w') (lim:=fun b'=>if b' < w.heap.size then lim b' else zs.length) (full:=Xc) (s:=1) (xs:=zs.map fun z=>[AV.val (.int .i64 z)]) (b:=g) (o:=0) (cap:=cap) (us:=zs.map (Value.int .i64))
    (fun x hx=>by obtain ⟨z,_,rfl⟩:=Xm.1 hx;rfl) (fun x hx y hy=>by obtain ⟨z,_,rfl⟩:=Xm.1 hx;rw [XH.1 hy];rfl) (fun h=>by cases h) (by rw [hl2];exact hnc)
    (fun _=>by rw [if_neg (by omega)];simp) (by simp) (fun j u hj=>?_) (fun j y u hy hu=>?_)
   ·rw [hl2] at key
    exact key
   ·have hcell:=hown.cells (g:=g) rfl j u hj
    have hadd:(⟨g,0,Xe⟩:Addr).add j=⟨g,0+j,Xe⟩:=by unfold Addr.add;split<;>simp_all
    rw [hadd] at hcell
    exact hcell
   ·rw [hfl,Xl] at hy
    rw [Xl] at hu
    cases hzj:zs[j]? with
    | none => rw [hzj] at hy; cases hy
    | some z =>
     rw [hzj] at hy hu
     cases hy
     cases hu
     exact .val rfl
theorem Zam {y:AV} {k:Nat} {e e':TypeId} {xs xs':List (List AV)} (h:Zr y k=Xa (e,xs)) (hg:y.isG=Xc) :
  Zr (Zp y k Xb e' xs') k=Xa (e',xs')∧(∀ q,q≠k→Zr (Zp y k Xb e' xs') q=Zr y q)∧(∀ q,q≠k→Z5 (Zp y k Xb e' xs') q=Z5 y q)∧Z5 (Zp y k Xb e' xs') k=Xa (e',xs')∧
   (Zp y k Xb e' xs').isG=Xc∧(∀ cs,y = .box cs→∃ cs',Zp y k Xb e' xs' = .box cs'):=by
 rcases ZG h with ⟨rfl,rfl⟩ | ⟨cs,q,rfl,rfl,hq⟩ | ⟨cs,q,rfl,rfl,hq⟩
 case inr.inr=>cases hg
 ·refine ⟨rfl,fun q hq=>?_,fun q hq=>?_,rfl,rfl,fun cs h=>by cases h⟩ <;> (cases q with | zero=>exact (hq rfl).elim | succ q=>rfl)
 ·have hlt:=(Xn.1 hq).1
  refine ⟨by simp only [Zp,Zr,Uq hlt],fun q' hq'=>?_,fun q' hq'=>?_,by simp only [Zp,Z5,Uq hlt],rfl,fun cs' _=>⟨_,rfl⟩⟩ <;>
   (cases q' with
   | zero => rfl
   | succ q' => simp only [Zp, Zr, Z5]; rw [Ur (by omega)])
theorem Sim.deepStep {c:Ctx} {σ:Nat→AV} {tm:Array Value} {w w':World} {lim lim':Nat→Nat} {X:Nat→Nat→Option Nat} (h:Sim c σ tm w lim X) {d k b:Nat} {E E':TypeId} {xs xs':List (List AV)} {Y':Nat→Option Nat}
  (hp:Zr (σ d) k=Xa (E,xs)) (hng:(σ d).isG=Xc) (hX:X d k=Xa b) (hw:ZU w lim w' lim' (fun b'=>b'=b∨∃ j,X (ngN+b) j=Xa b'))
  (hown:∀ v,ZY c.P w lim Xb E xs v (Xa b)→ZY c.P w' lim' Xb E' xs' v (Xa b)) (hl:xs'.length=xs.length) (hrk:WW w w' b) (href:E'=E∨∀ i,¬ Jl (σ i) d k) (hmo:ZfO c.P w' lim' E' xs' (X d))
  (hY:∀ j b',Y' j=Xa b'→(∃ j0,X (ngN+b) j0=Xa b')∨(b' < w'.heap.size∧(c.A b'∨c.w0.heap.size≤b')∧∀ i q,X i q≠Xa b')) (hYi:∀ j j' b',Y' j=Xa b'→Y' j'=Xa b'→j=j')
  (hN:Zg c.P E'=Xb→VK c.P w' lim' E' xs' b Y') :
  Sim c (upd σ d (Zp (σ d) k Xb E' xs')) tm w' lim' (Ke X (ngN+b) Y'):=by
 obtain ⟨q1,q2,q3,q4,q5,q6⟩:=Zam (e':=E') (xs':=xs') hp hng
 have hdf:d < ngN:=by
  rcases XD d ngN with hlt | hge
  ·exact hlt
  ·rw [h.far d hge] at hp;cases hp
 have hdn:d < c.nt:=JJ h (by intro e;rw [e] at hp;cases hp) hng
 have hbl:b < w.heap.size:=(h.ours d k b hX).1
 -- all other blocks are kept
 have kept:∀ i q b',X i q=Xa b'→¬ (i=d∧q=k)→i≠ngN+b→ZfM w lim w' lim' b':=fun i q b' hb h1 h2=>hw.blk b' (h.ours i q b' hb).1 fun hs=>by
  rcases hs with rfl | ⟨j,hj⟩
  ·exact h1 (h.dist i q d k b' hb hX)
  ·exact h2 (h.dist i q (ngN+b) j b' hb hj).1
 have hrowd:Ke X (ngN+b) Y' d=X d:=Zj X Y' (by omega)
 have hG:∀ i,(σ i).isG=Xb→i < ngN∧i≠d:=fun i hi=>by
  refine ⟨?_,fun e=>by rw [e,hng] at hi;cases hi⟩
  rcases XD i ngN with hlt | hge
  ·exact hlt
  ·rw [h.far i hge] at hi;cases hi
 have hrow:∀ i,i < ngN→Ke X (ngN+b) Y' i=X i:=fun i hi=>Zj X Y' (by omega)
 have hlow:∀ i p,Zr (σ i) p≠Xe→i < ngN:=fun i p hi=>by
  rcases XD i ngN with hlt | hge
  ·exact hlt
  ·rw [h.far i hge] at hi;exact (hi rfl).elim
 refine ⟨fun i=>?_,h.size,fun i hi=>?_,fun i hi=>?_,fun i p i' p' b' g g'=>?_,fun i p b' g=>?_,h.frm.step hw fun b' hs=>?_,fun i v hv=>?_,fun i e1 xs1 he=>?_,fun i b' hb=>?_,h.ntN,fun i hi=>?_,fun i p e1 xs1 b1 g1 g2 g3=>?_,fun b1 m b' hb=>?_⟩
 ·by_cases hi:i=d
  ·subst hi
   rw [ZC]
   have hr:=h.rel i
   rcases ZG hp with ⟨g1,rfl⟩ | ⟨cs,q,g1,rfl,g2⟩ | ⟨_,_,g1,_⟩
   case inr.inr=>rw [g1] at hng;cases hng
   ·rw [g1] at hr ⊢
    have hr':ZY c.P w lim Xb E xs (tm.getD i undef) (X i 0):=hr
    show ZY c.P w' lim' Xb E' xs' _ (Ke X (ngN+b) Y' i 0)
    rw [hrowd,hX]
    rw [hX] at hr'
    exact hown _ hr'
   ·rw [g1] at hr ⊢
    obtain ⟨b0,arr,t,k1,k2,k3,k4,k5,k6,k7⟩:=(show ZN c.P w lim (X i) cs _ from hr)
    have hk0:=kept i 0 b0 k1 (by omega) (by omega)
    show ZN c.P w' lim' (Ke X (ngN+b) Y' i) (cs.set q (.own Xb E' xs')) _
    rw [hrowd]
    refine ⟨b0,arr,t,k1,k2,hk0.1.trans k3,by rw [Ud];exact k4,hk0.2.trans k5,fun x hx=>?_,fun j x u hx hu=>?_⟩
    ·rcases Ue hx with hx | hx
     ·exact k6 x hx
     ·exact .inr (.inl ⟨_,_,_,hx⟩)
    ·by_cases hj:j=q
     ·subst hj
      rw [Uq (Xn.1 g2).1] at hx
      simp only [Xf] at hx
      subst hx
      have hc:ZY c.P w lim Xb E xs u (X i (j+1)):=k7 j _ u g2 hu
      show ZY c.P w' lim' Xb E' xs' u (X i (j+1))
      rw [hX] at hc ⊢
      exact hown u hc
     ·rw [Ur (fun h=>hj h.symm)] at hx
      exact (k7 j x u hx hu).mono hw.ext fun b' hb'=>kept i (j+1) b' hb' (by omega) (by omega)
  ·rw [Zf σ _ hi]
   rcases XD i ngN with hlt | hge
   ·have hm:=(h.rel i).mono hw.ext (fun p b' hb=>kept i p b' hb (fun hh=>hi hh.1) (by omega)) fun d' p b' hr hb=>by
     by_cases hbb:b'=b
     ·subst hbb;exact hrk
     ·have hd':d' < ngN:=by
       obtain ⟨pp,hpp⟩:=Y9 h (.inl hr)
       exact hlow d' p (by rw [hpp];exact fun h=>by cases h)
      exact .of (hw.blk b' (h.ours d' p b' hb).1 fun hs=>by
       rcases hs with e | ⟨j,hj⟩
       ·exact hbb e
       ·have:=(h.dist d' p (ngN+b) j b' hb hj).1;omega).1
    refine hm.chg (hrow i hlt) (fun d' cs hd'=>?_) (fun d' hd'=>?_) fun d' p hr=>?_
    ·by_cases hdd:d'=d
     ·subst hdd
      obtain ⟨cs',hcs⟩:=q6 cs hd'
      exact ⟨⟨cs',by rw [ZC];exact hcs⟩,by rw [hrowd]⟩
     ·have:d' < ngN:=by
       rcases XD d' ngN with hlt | hge
       ·exact hlt
       ·rw [h.far d' hge] at hd';cases hd'
      exact ⟨⟨cs,by rw [Zf σ _ hdd];exact hd'⟩,by rw [hrow d' this]⟩
    ·obtain ⟨g1,g2⟩:=hG d' hd'
     exact ⟨by rw [Zf σ _ g2];exact hd',by rw [hrow d' g1]⟩
    ·obtain ⟨pp,hpp⟩:=Y9 h hr
     have hd':=hlow d' p (by rw [hpp];exact fun h=>by cases h)
     refine ⟨?_,by rw [hrow d' hd']⟩
     by_cases hdd:d'=d
     ·subst hdd
      rw [ZC]
      by_cases hpk:p=k
      ·subst hpk
       rcases href with rfl | href
       ·intro e1 ys hy
        rw [hp] at hy
        simp only [Xf,Xo] at hy
        obtain ⟨rfl,rfl⟩:=hy
        exact ⟨xs',q1,hl⟩
       ·exact (href i hr).elim
      ·intro e1 ys hy
       exact ⟨ys,by rw [q2 p hpk];exact hy,rfl⟩
     ·rw [Zf σ _ hdd];exact KF.refl _ _
   ·rw [h.far i hge];trivial
 ·by_cases hid:i=d
  ·omega
  ·rw [Zf σ _ hid];exact h.out i hi
 ·by_cases hid:i=d
  ·subst hid;rw [ZC,q5] at hi;cases hi
  ·rw [Zf σ _ hid] at hi;exact h.ghost i hi
 ·by_cases h1:i=ngN+b<;>by_cases h2:i'=ngN+b
  ·subst h1;subst h2
   rw [Zo] at g g'
   exact ⟨rfl,hYi p p' b' g g'⟩
  ·subst h1
   rw [Zo] at g
   rw [Zj X Y' h2] at g'
   rcases hY p b' g with ⟨j0,hj⟩ | ⟨_,_,hno⟩
   ·exact (h2 (h.dist i' p' (ngN+b) j0 b' g' hj).1).elim
   ·exact (hno i' p' g').elim
  ·subst h2
   rw [Zo] at g'
   rw [Zj X Y' h1] at g
   rcases hY p' b' g' with ⟨j0,hj⟩ | ⟨_,_,hno⟩
   ·exact (h1 (h.dist i p (ngN+b) j0 b' g hj).1).elim
   ·exact (hno i p g).elim
  ·rw [Zj X Y' h1] at g
   rw [Zj X Y' h2] at g'
   exact h.dist i p i' p' b' g g'
 ·by_cases h1:i=ngN+b
  ·subst h1
   rw [Zo] at g
   rcases hY p b' g with ⟨j0,hj⟩ | ⟨m1,m2,_⟩
   ·exact ⟨XO (h.ours _ j0 b' hj).1 hw.size,(h.ours _ j0 b' hj).2⟩
   ·exact ⟨m1,m2⟩
  ·rw [Zj X Y' h1] at g
   exact ⟨XO (h.ours i p b' g).1 hw.size,(h.ours i p b' g).2⟩
 ·rcases hs with rfl | ⟨j,hj⟩
  ·exact (h.ours d k b' hX).2
  ·exact (h.ours _ j b' hj).2
 ·obtain ⟨g1,cs,g2⟩:=h.pin i v hv
  by_cases hid:i=d
  ·subst hid
   obtain ⟨cs',hcs⟩:=q6 cs g2
   exact ⟨g1,cs',by rw [ZC];exact hcs⟩
  ·exact ⟨g1,cs,by rw [Zf σ _ hid];exact g2⟩
 ·by_cases hid:i=d
  ·subst hid
   rw [ZC] at he
   rw [hrowd]
   have hk0:k=0:=by
    cases k with
    | zero => rfl
    | succ k =>
     rw [he] at q1
     simp [Zr] at q1
   subst hk0
   rw [he] at q1
   simp only [Zr,Xf,Xo] at q1
   obtain ⟨rfl,rfl⟩:=q1
   exact hmo
  ·rw [Zf σ _ hid] at he
   have hif:i < ngN:=by
    rcases XD i ngN with hlt | hge
    ·exact hlt
    ·rw [h.far i hge] at he;cases he
   rw [hrow i hif]
   exact (h.mp i e1 xs1 he).mono hw.ext fun p b' hb=>kept i p b' hb (fun hh=>hid hh.1) (by omega)
 ·obtain ⟨g1,g2⟩:=h.gpin i b' hb
  obtain ⟨m1,m2⟩:=hG i g2
  exact ⟨by rw [hrow i m1];exact g1,by rw [Zf σ _ m2];exact g2⟩
 ·rw [Zf σ _ (by omega)];exact h.far i hi
 ·have hif:i < ngN:=by
   rcases XD i ngN with hlt | hge
   ·exact hlt
   ·rw [Zf σ _ (by omega),h.far i hge] at g1;cases g1
  rw [hrow i hif] at g3
  by_cases hik:i=d∧p=k
  ·obtain ⟨rfl,rfl⟩:=hik
   rw [ZC,q4] at g1
   simp only [Xf,Xo] at g1
   obtain ⟨rfl,rfl⟩:=g1
   rw [hX] at g3
   cases g3
   rw [Zo]
   exact hN g2
  ·have hbb:b1≠b:=fun e=>hik (h.dist i p d k b1 g3 (by rw [e];exact hX))
   rw [Zj X Y' (by omega)]
   have hold:Z5 (σ i) p=Xa (e1,xs1):=by
    by_cases hid:i=d
    ·subst hid
     rw [ZC,q3 p (fun e=>hik ⟨rfl,e⟩)] at g1
     exact g1
    ·rw [Zf σ _ hid] at g1;exact g1
   exact (h.nst i p e1 xs1 b1 hold g2 g3).mono hw.ext (kept i p b1 g3 hik (by omega)).1 fun j b' hb'=>kept _ j b' hb' (fun hh=>by omega) (by omega)
 ·by_cases hbb:b1=b
  ·subst hbb;exact XO hbl hw.size
  ·rw [Zj X Y' (by omega)] at hb
   exact XO (h.yfr b1 m b' hb) hw.size
theorem ZU.sub {w:World} {lim:Nat→Nat} {w':World} {lim':Nat→Nat} {S S':Nat→Prop} (h:ZU w lim w' lim' S) (hs:∀ b,S b→S' b):ZU w lim w' lim' S':=
 ⟨h.os,h.tape,h.output,h.size,h.frz,fun b hb hn=>h.blk b hb fun hh=>hn (hs b hh),h.ext⟩
theorem KO {α:Type} (zs vs:List α) (off:Nat) (h:off+vs.length≤zs.length) (j:Nat):(zs.take off++vs++zs.drop (off+vs.length))[j]? = if off≤j∧j < off+vs.length then vs[j-off]? else zs[j]?:=by
 have l1:(zs.take off).length=off:=by rw [Xt];omega
 rw [Xw]
 rcases XD j off with hlt | hge
 ·rw [XE (by omega),List.getElem?_take_of_lt hlt,if_neg (by omega)]
 ·rw [XB (by omega),l1]
  rcases XD (j-off) vs.length with hlt | hge'
  ·rw [XE hlt,if_pos (by omega)]
  ·rw [XB hge',XI,if_neg (by omega)]
   congr 1
   omega
theorem Zl9 {P:Program} {e:TypeId} (h:Zg P e=Xb):bT e=e-2097152∧2097152≤e:=by
 have h8:2097152≤e:=by simp only [Zg,Xx,decide_eq_true_eq] at h;exact h.1
 exact ⟨if_pos h8,h8⟩
theorem Zly {P:Program} {e:TypeId} (h:Zg P (e+2097152)=Xb):bT (e+2097152)=e:=by
 rw [(Zl9 h).1];exact X5 e 2097152
theorem Vg {P:Program} {w w':World} {lim lim':Nat→Nat} {E E':TypeId} {xs xs':List (List AV)} {b:Nat} {arr arr':Array Value} (hm:Zk P E=Xc∨Zg P E=Xb) (hd:ZdH P w E (Xa b)) (hheap:w.heap[b]? = Xa (.cells arr (bT E) (0,0))) (hheap':w'.heap[b]? = Xa (.cells arr' (bT E) (0,0)))
  (hsz:arr'.size=arr.size) (hl:xs'.length=xs.length) (hl0:lim' b=0) (h1:∀ x∈xs',x.length=P.cellsOf (bT E)) (h2:∀ x∈xs',∀ z∈x,z.isCell=Xb) (h3:∀ (j:Nat) (z:AV) (u:Value),xs'.flatten[j]? = Xa z→arr'[j]? = Xa u→Rep w' lim' z u)
  (hE:E'=bT E∨(Zg P E'=Xb∧bT E'=bT E∧Zk P (bT E)=Xc)):∀ v,ZY P w lim Xb E xs v (Xa b)→ZY P w' lim' Xb E' xs' v (Xa b):=by
 intro v ho
 obtain ⟨arr0,cap,g1,g2,g3,g4,g5,g6,g7,g8,g9⟩:=KK ho hm hd
 rw [hheap] at g2
 simp only [Xf,Obj.cells.injEq,and_true] at g2
 subst g2
 have key:=Vu (P:=P) (w:=w') (lim:=lim') (e:=bT E) (xs:=xs') (cap:=cap) hheap' hl0 (by omega) g5 (by rw [hsz];exact g6) h1 h2 h3
 rw [hl] at key
 rw [g1]
 rcases hE with rfl | ⟨k1,k2,k3⟩
 ·exact key
 ·refine .inr (.inr ⟨rfl,.inr (.inl ⟨k1,by rw [k2];exact k3,?_⟩)⟩)
  rw [k2]
  exact key.noMap k3
theorem Kx {c:Ctx} {σ:Nat→AV} {tm:Array Value} {w:World} {lim:Nat→Nat} {X:Nat→Nat→Option Nat} (h:Sim c σ tm w lim X) {d q k p:Nat} {e:TypeId} {xs:List (List AV)} {v:Value}
  (hd:Zr (σ d) q=Xa (e,xs)) (hv:ZZ c.P w lim X σ k (.eref d q p) v) (hnm:Zk c.P e=Xc∨Zg c.P e=Xb) :
   ∃ b arr cap,X d q=Xa b∧v = .pointer (Xa ⟨b,p,Xe⟩)∧w.heap[b]? = Xa (.cells arr (bT e) (0,0))∧lim b=0∧xs.length≤cap∧cap≤maxLen∧
   arr.size=cap*c.P.cellsOf (bT e)∧(∀ x∈xs,x.length=c.P.cellsOf (bT e))∧(∀ x∈xs,∀ c∈x,c.isCell=Xb)∧∀ (j:Nat) (c:AV) (u:Value),xs.flatten[j]? = Xa c→arr[j]? = Xa u→Rep w lim c u:=by
 obtain ⟨b,e',xs',h1,h2,h3⟩:=hv
 rw [hd] at h1
 simp only [Xf,Xo] at h1
 obtain ⟨rfl,rfl⟩:=h1
 obtain ⟨u,ho⟩:=J4 h hd
 rw [h2] at ho
 obtain ⟨arr0,cap,g1,g2,g3⟩:=KK ho hnm (by rw [← h2];exact h.deepB (Z4 hd))
 exact ⟨b,arr0,cap,h2,h3.ptr hnm,g2,g3⟩
theorem ZaO {c:Ctx} {σ:Nat→AV} {tm:Array Value} {w:World} {lim:Nat→Nat} {X:Nat→Nat→Option Nat} (h:Sim c σ tm w lim X) {d q b:Nat} {e:TypeId} {xs:List (List AV)} (hd:Zr (σ d) q=Xa (e,xs)) (hX:X d q=Xa b) (hdp:Zg c.P e=Xb):Zk c.P (bT e)=Xc:=by
 obtain ⟨u,ho⟩:=J4 h hd
 rw [hX] at ho
 rcases ho with ⟨us,k1,k2,_⟩ | ⟨_,h',_⟩ | ⟨_,⟨_,_,_,_,_,et,k1,_⟩ | h' | ⟨_,_,_,_,_,_,⟨_,_,k1⟩,_⟩⟩
 ·exfalso
  rcases k1.2 with ⟨hv,_⟩ | ⟨g,cap,cur,hv,_,hg,_⟩
  ·rw [hv] at k2;cases k2
  ·obtain ⟨arr,ha⟩:=h.deepB (Z4 hd) hdp b hX
   have hgb:g=b:=by rw [hv] at k2;exact Xp k2
   rw [hgb,ha] at hg
   simp only [Xf,Obj.cells.injEq,and_true] at hg
   obtain ⟨m1,m2⟩:=Zl9 hdp
   have h9:=hg.2
   rw [m1] at h9
   exact absurd h9 (Nat.ne_of_lt (Nat.sub_lt (XO (by decide) m2) (by decide)))
 ·cases h'
 ·rw [Kp k1] at hdp;cases hdp
 ·exact h'.2.1
 ·rw [YI k1] at hdp;cases hdp
def ZpW (z:AV):Bool:=match z with | .nest _ _ _ _=>Xc | _=>Xb
theorem Zcy {P:Program} {o:Oper} {σ:Nat→AV} {T E:TypeId} {a x:Operand} {d q i off:Nat} {xs:List (List AV)} {vc vc':List AV} {y:AV} (ho:o.op = .store T a x) (ha:Zt P σ a = .eref d q (i*P.cellsOf (bT E)+off)) (hd:Zr (σ d) q=Xa (E,xs)) (hng:(σ d).isG=Xc)
  (hx:Zt P σ x=y) (hy:y.cells? = Xa vc) (hn:vc.length=P.cellsOf T) (h0:P.cellsOf T≠0) (hi:i < xs.length) (hfit:off+P.cellsOf T≤P.cellsOf (bT E))
  (hw:vc'.length=vc.length∧∀ (w:World) (lim:Nat→Nat) (us:List Value),YC w lim vc us→YC w lim vc' us) (hnn:∀ z∈vc',ZpW z=Xb) (hdp:Zg P E=Xb) :
  JO P o σ .dead [(d,Zp (σ d) q Xb E (Zq xs i off vc'))] [d]:=by
 intro c hc σ' tm w lim X hid hag hsim next Q hnx
 have hga:Zt P σ' a=Zt P σ a:=ZJ fun t ht=>hid t (by simp [Zw (o:=o) (x:=a) (by rw [ho];simp [Op.operands]) ht])
 have hgx:Zt P σ' x=Zt P σ x:=ZJ fun t ht=>hid t (by simp [Zw (o:=o) (x:=x) (by rw [ho];simp [Op.operands]) ht])
 have hsd:σ' d=σ d:=hag d (by simp)
 have hd':Zr (σ' d) q=Xa (E,xs):=by rw [hsd,hd]
 have hva:=Yj hc hsim ha hga
 rw [← hc] at hva
 have hdp':Zg c.P E=Xb:=by rw [hc];exact hdp
 obtain ⟨us,h4,h5⟩:=VZ hy (Yj hc hsim hx hgx)
 obtain ⟨b,arr,cap,g1,h3,g3,g4,g6,g7,g8,g9,g10,g11⟩:=Kx hsim hd' hva (.inr hdp')
 have hbm:=ZaO hsim hd' g1 hdp'
 rw [hc] at g8 g9 h3
 obtain ⟨inf,hinf⟩:=Zy h0
 have h5':=hw.2 w lim us h5
 have hlen:us.length=P.cellsOf T:=by rw [← h5.1,hn]
 have hmul:i*P.cellsOf (bT E)+P.cellsOf (bT E)≤xs.length*P.cellsOf (bT E):=by
  rw [← Uj];exact XF _ hi
 have hcap:xs.length*P.cellsOf (bT E)≤cap*P.cellsOf (bT E):=XF _ g6
 have hmem:=Ys (i:=i) g9 g10 (by rw [hw.1,hn];exact hfit) h5'.2.1
 have hst:=Yr (P:=P) (T:=T) (w:=w) (b:=b) (off:=i*P.cellsOf (bT E)+off) (v:=Act.eval ⟨tm,[]⟩ x) hinf h4 hlen g3 (by rw [hlen,g8];omega) (fun u hu=>by
  obtain ⟨j,hj⟩:=XU.1 hu
  have hlt:j < vc.length:=by rw [h5.1];exact (Xn.1 hj).1
  exact (h5.2.2 j _ u (Xq hlt) hj).oneCell (h5.2.1 _ (Xy hlt)))
 obtain ⟨arr',harr⟩:∃ arr',arr'=(arr.toList.take (i*P.cellsOf (bT E)+off)++us++arr.toList.drop (i*P.cellsOf (bT E)+off+us.length)).toArray:=⟨_,rfl⟩
 have hsz:arr'.size=arr.size:=by rw [harr];simp [g8];omega
 have hstep:=Jp (cs:=arr') g3 g4
 have hfl:=Jz (i:=i) (o:=off) (e:=vc') g9 hi (by rw [hw.1,hn];exact hfit)
 have hxl:=Zh xs _ g9
 have hrep:∀ (j:Nat) (z:AV) (u:Value),(Zq xs i off vc').flatten[j]? = Xa z→arr'[j]? = Xa u→Rep w lim z u:=fun j z u hz hu=>by
  rw [hfl] at hz
  rw [harr] at hu
  refine Ze7 (R:=Rep w lim) (us:=arr.toList) (fun j z u hz hu=>g11 j z u hz (by simpa using hu)) h5'.2.2 (by rw [hw.1,h5.1]) ?_ ?_ j z u hz (by simpa using hu)
  ·rw [hxl];omega
  ·simp [g8];omega
 have hY:∀ j b',X (ngN+b) j=Xa b'→ZfM w lim (w.setRow b arr') lim b':=fun j b' hb'=>hstep.blk b' (hsim.ours _ j b' hb').1 fun e=>by
  have hdf:d < ngN:=by
   rcases XD d ngN with hlt | hge
   ·exact hlt
   ·rw [hsim.far d hge] at hd';cases hd'
  have:=(hsim.dist (ngN+b) j d q b' hb' (by rw [e];exact g1)).1
  omega
 have hset:=hsim.deepStep (w':=w.setRow b arr') (lim':=lim) (E':=E) (xs':=Zq xs i off vc') (Y':=X (ngN+b)) hd' (by rw [hsd];exact hng) g1 (hstep.sub fun _ h=>.inl h)
  (Vg (.inr hdp') (by rw [← g1];exact hsim.deepB (Z4 hd')) g3 (setRow_heap w b arr arr' _ _ g3) hsz (by simp [Zq]) g4 (fun x hx=>by rw [hc];exact (hmem x hx).1) (fun x hx=>(hmem x hx).2) (fun j z u hz hu=>(hrep j z u hz hu).mono hstep.ext) (.inr ⟨hdp',rfl,hbm⟩))
  (by simp [Zq]) (Y0 g3 hsz b) (.inl rfl) (.mv (.inr (.inl hdp'))) (fun j b' hb'=>.inl ⟨j,hb'⟩) (fun j j' b' h1 h2=>(hsim.dist _ j _ j' b' h1 h2).2)
  (fun _=>⟨⟨arr',setRow_heap w b arr arr' _ _ g3⟩,fun j s e ys u hz hu=>by
   rw [hfl,KO _ _ _ (by rw [hxl,hw.1,hn];omega)] at hz
   split at hz
   ·have:=hnn _ (Xj hz)
    cases this
   ·rename_i hj
    have hN:=(hsim.nst d q E xs b (Z4 hd') hdp' g1).2
    have hu':w.cell? ⟨b,j,Xe⟩=Xa u:=by
     rw [Zl (setRow_heap w b arr arr' _ _ g3),harr] at hu
     rw [Zl g3]
     have hu2:(arr.toList.take (i*P.cellsOf (bT E)+off)++us++arr.toList.drop (i*P.cellsOf (bT E)+off+us.length))[j]? = Xa u:=by simpa using hu
     rw [KO _ _ _ (by simp [g8];omega),if_neg (by rw [← h5'.1];exact hj)] at hu2
     simpa using hu2
    obtain ⟨m1,m2,m3⟩:=hN j s e ys u hz hu'
    exact ⟨m1,m2,m3.mono hstep.ext (hY j)⟩⟩)
 rw [hsd] at hset
 refine JU (w':=w.setRow b arr') ?_ (hnx undef _ ?_)
 ·rw [harr];simp only [execOp,ho,h3,Sem.run_bind,hst,Result.andThen_ok,Sem.run_pure]
 ·exact ZE hset rfl (k:=0) trivial
theorem Zdb {T':Odr} {P:Program} {o:Oper} {σ:Nat→AV} {T E e:TypeId} {a:Operand} {t d q i off:Nat} {xs ys:List (List AV)} {us:List (Nat×AV)} (ho:o.op = .store T a (.tmp t)) (ha:Zt P σ a = .eref d q (i*P.cellsOf (bT E)+off)) (hd:Zr (σ d) q=Xa (E,xs)) (hng:(σ d).isG=Xc)
  (ht:σ t = .own Xb e ys) (hn:P.cellsOf T=1) (hi:i < xs.length) (hfit:off < P.cellsOf (bT E)) (hdp:Zg P E=Xb) (hem:Zk P e=Xc) (hus:Yw T' σ t us) (hdt:d≠t) :
  Kc T' P o σ .dead (((t,.dead)::us)++[(d,Zp (σ d) q Xb E (Zq xs i off [.nest (P.cellsOf e) Xb e ys]))]) [d]:=by
 intro c hc σ' tm w lim X hid hag hT hsim next Q hnx
 have hga:Zt P σ' a=Zt P σ a:=ZJ fun t ht=>hid t (by simp [Zw (o:=o) (x:=a) (by rw [ho];simp [Op.operands]) ht])
 have hsd:σ' d=σ d:=hag d (by simp)
 have hd':Zr (σ' d) q=Xa (E,xs):=by rw [hsd,hd]
 have ht':σ' t = .own Xb e ys:=by rw [hag t (by simp),ht]
 have hda:=hus.all hT
 have hva:=Yj hc hsim ha hga
 rw [← hc] at hva
 have hdp':Zg c.P E=Xb:=by rw [hc];exact hdp
 have hem':Zk c.P e=Xc:=by rw [hc];exact hem
 obtain ⟨b,arr,cap,g1,h3,g3,g4,g6,g7,g8,g9,g10,g11⟩:=Kx hsim hd' hva (.inr hdp')
 have hbm:=ZaO hsim hd' g1 hdp'
 rw [hc] at g8 g9 h3
 obtain ⟨inf,hinf⟩:=Zy (P:=P) (T:=T) (by omega)
 have hdf:d < ngN:=by
  rcases XD d ngN with hlt | hge
  ·exact hlt
  ·rw [hsim.far d hge] at hd';cases hd'
 obtain ⟨X1,k1,k2,k3,k4⟩:=hsim.freeAll (us:=us) ht' (.inr hda)
 have hxd:JC σ' ((t,K8 c.P Xb e ys)::us) d=σ' d:=by
  refine Zcx _ _ _ ?_
  simp only [Xk,Xu,not_or]
  refine ⟨hdt,fun hm=>?_⟩
  obtain ⟨u,hu,hud⟩:=Xm.1 hm
  obtain ⟨_,_,p,hp⟩:=hda.1 u hu
  rw [hud] at hp
  rcases hp with hp | ⟨_,hp⟩ <;> (rw [hp] at hd';cases hd')
 have hX1:X1 d q=Xa b:=by
  have hd1:Zr (JC σ' ((t,K8 c.P Xb e ys)::us) d) q=Xa (E,xs):=by rw [hxd];exact hd'
  have hr1:=k1.rel d
  have hr0:=hsim.rel d
  rw [hxd] at hr1
  rcases ZG hd' with ⟨e1,rfl⟩ | ⟨cs,q',e1,rfl,hq'⟩ | ⟨cs,q',e1,rfl,hq'⟩
  ·rw [e1] at hr1 hr0
   have a1:ZY c.P w lim Xb E xs _ (X1 d 0):=hr1
   have a0:ZY c.P w lim Xb E xs _ (X d 0):=hr0
   rw [g1] at a0
   obtain ⟨arr0,cap0,m1,_⟩:=KK a0 (.inr hdp') (by rw [← g1];exact hsim.deepB (Z4 hd'))
   rcases a1.one (.inr hdp') (k1.deepB (Z4 hd1)) with ⟨us1,n1,n2,_⟩ | ⟨_,_,a,n3⟩
   ·rw [m1] at n2;exact n2.symm
   ·rw [m1] at n3
    simp only [Value.slice.injEq,Xf] at n3
    omega
  ·rw [e1] at hr1 hr0
   obtain ⟨b1,arr1,t1,a1,a2,a3,a4,a5,a6,a7⟩:=(show ZN c.P w lim (X1 d) cs _ from hr1)
   obtain ⟨b2,arr2,t2,c1,c2,c3,c4,c5,c6,c7⟩:=(show ZN c.P w lim (X d) cs _ from hr0)
   have hbb:b1=b2:=by rw [a2] at c2;simpa using c2
   subst hbb
   rw [a3] at c3
   simp only [Xf,Obj.cells.injEq,and_true] at c3
   obtain ⟨rfl,_⟩:=c3
   have hlt:=(Xn.1 hq').1
   have hu1:arr1[q']? = Xa (arr1[q']'(by omega)):=X8 (by omega)
   have o1:ZY c.P w lim Xb E xs _ (X1 d (q'+1)):=a7 q' _ _ hq' hu1
   have o0:ZY c.P w lim Xb E xs _ (X d (q'+1)):=c7 q' _ _ hq' hu1
   rw [g1] at o0
   obtain ⟨arr0,cap0,m1,_⟩:=KK o0 (.inr hdp') (by rw [← g1];exact hsim.deepB (Z4 hd'))
   rcases o1.one (.inr hdp') (k1.deepB (Z4 hd1)) with ⟨us1,n1,n2,_⟩ | ⟨_,_,a,n3⟩
   ·rw [m1] at n2;exact n2.symm
   ·rw [m1] at n3
    simp only [Value.slice.injEq,Xf] at n3
    omega
  ·rw [e1] at hsd;rw [← hsd] at hng;cases hng
 have hd1:Zr (JC σ' ((t,K8 c.P Xb e ys)::us) d) q=Xa (E,xs):=by rw [hxd];exact hd'
 have hval:∃ a n cp,tm.getD t undef = .slice a n cp:=by
  rcases k2.noMap hem' with ⟨us1,hr,_⟩ | ⟨_,_,b1,hv⟩
  ·rcases hr.2 with ⟨hv,_⟩ | ⟨g,cap,cur,hv,_⟩ <;> exact ⟨_,_,_,hv⟩
  ·exact ⟨_,_,_,hv⟩
 have hmul:i*P.cellsOf (bT E)+P.cellsOf (bT E)≤xs.length*P.cellsOf (bT E):=by
  rw [← Uj];exact XF _ hi
 have hcap:xs.length*P.cellsOf (bT E)≤cap*P.cellsOf (bT E):=XF _ g6
 have hmem:=Ys (i:=i) (o:=off) (e:=[AV.nest (P.cellsOf e) Xb e ys]) g9 g10 (by simp;omega) (fun z hz=>by simp at hz;subst hz;rfl)
 have hcl:=ZY.cells1 k2
 have hst:=Yr (P:=P) (T:=T) (w:=w) (b:=b) (off:=i*P.cellsOf (bT E)+off) (v:=tm.getD t undef) (us:=[tm.getD t undef]) hinf (by rw [hcl.1]) (by simp [hn]) g3 (by simp [g8];omega) (fun u hu=>by simp at hu;subst hu;simpa using hcl.2)
 obtain ⟨arr',harr⟩:∃ arr',arr'=(arr.toList.take (i*P.cellsOf (bT E)+off)++[tm.getD t undef]++arr.toList.drop (i*P.cellsOf (bT E)+off+1)).toArray:=⟨_,rfl⟩
 have hsz:arr'.size=arr.size:=by rw [harr];simp [g8];omega
 have hstep:=Jp (cs:=arr') g3 g4
 have hfl:=Jz (i:=i) (o:=off) (e:=[AV.nest (P.cellsOf e) Xb e ys]) g9 hi (by simp;omega)
 have hxl:=Zh xs _ g9
 have hget:∀ j,(Zq xs i off [AV.nest (P.cellsOf e) Xb e ys]).flatten[j]? = if j=i*P.cellsOf (bT E)+off then Xa (.nest (P.cellsOf e) Xb e ys) else xs.flatten[j]?:=fun j=>by
  rw [hfl,KO _ _ _ (by simp [hxl];omega)]
  by_cases hj:j=i*P.cellsOf (bT E)+off
  ·subst hj;rw [if_pos (by simp),if_pos rfl];simp
  ·rw [if_neg (by simp;omega),if_neg hj]
 have hget':∀ j,arr'[j]? = if j=i*P.cellsOf (bT E)+off then Xa (tm.getD t undef) else arr[j]?:=fun j=>by
  have hal:arr.toList.length=cap*P.cellsOf (bT E):=by simpa using g8
  have h9:arr'[j]? = (arr.toList.take (i*P.cellsOf (bT E)+off)++[tm.getD t undef]++arr.toList.drop (i*P.cellsOf (bT E)+off+1))[j]?:=by rw [harr];simp
  rw [h9]
  refine (KO arr.toList [tm.getD t undef] (i*P.cellsOf (bT E)+off) (by simp [g8];omega) j).trans ?_
  by_cases hj:j=i*P.cellsOf (bT E)+off
  ·subst hj;rw [if_pos (by simp),if_pos rfl];simp
  ·rw [if_neg (by simp;omega),if_neg hj];simp
 have hrep:∀ (j:Nat) (z:AV) (u:Value),(Zq xs i off [AV.nest (P.cellsOf e) Xb e ys]).flatten[j]? = Xa z→arr'[j]? = Xa u→Rep w lim z u:=fun j z u hz hu=>by
  rw [hget] at hz
  rw [hget'] at hu
  by_cases hj:j=i*P.cellsOf (bT E)+off
  ·rw [if_pos hj] at hz hu
   obtain ⟨a,n,cp,hv⟩:=hval
   simp only [Xf] at hz hu
   subst hz
   rw [← hu,hv]
   exact .nest
  ·rw [if_neg hj] at hz hu
   exact g11 j z u hz hu
 have hYk:∀ i' j b',X1 i' j=Xa b'→i'≠d→ZfM w lim (w.setRow b arr') lim b':=fun i' j b' hb' hne=>hstep.blk b' (k1.ours _ j b' hb').1 fun e'=>hne (k1.dist i' j d q b' hb' (by rw [e'];exact hX1)).1
 have hset:=k1.deepStep (w':=w.setRow b arr') (lim':=lim) (E':=E) (xs':=Zq xs i off [AV.nest (P.cellsOf e) Xb e ys]) (Y':=fun j=>if j=i*P.cellsOf (bT E)+off then X t 0 else X1 (ngN+b) j) hd1 (by rw [hxd,hsd];exact hng) hX1 (hstep.sub fun _ h=>.inl h)
  (Vg (.inr hdp') (by rw [← hX1];exact k1.deepB (Z4 hd1)) g3 (setRow_heap w b arr arr' _ _ g3) hsz (by simp [Zq]) g4 (fun x hx=>by rw [hc];exact (hmem x hx).1) (fun x hx=>(hmem x hx).2) (fun j z u hz hu=>(hrep j z u hz hu).mono hstep.ext) (.inr ⟨hdp',rfl,hbm⟩))
  (by simp [Zq]) (Y0 g3 hsz b) (.inl rfl) (.mv (.inr (.inl hdp'))) (fun j b' hb'=>by
   by_cases hj:j=i*P.cellsOf (bT E)+off
   ·rw [if_pos hj] at hb'
    obtain ⟨m1,m2⟩:=k3 b' hb'
    exact .inr ⟨by simpa using (hsim.ours t 0 b' hb').1,m1,m2⟩
   ·rw [if_neg hj] at hb';exact .inl ⟨j,hb'⟩) (fun j j' b' h1 h2=>by
   by_cases hj:j=i*P.cellsOf (bT E)+off<;>by_cases hj':j'=i*P.cellsOf (bT E)+off
   ·rw [hj,hj']
   ·rw [if_pos hj] at h1;rw [if_neg hj'] at h2;exact ((k3 b' h1).2 _ _ h2).elim
   ·rw [if_neg hj] at h1;rw [if_pos hj'] at h2;exact ((k3 b' h2).2 _ _ h1).elim
   ·rw [if_neg hj] at h1;rw [if_neg hj'] at h2;exact (k1.dist _ j _ j' b' h1 h2).2)
  (fun _=>⟨⟨arr',setRow_heap w b arr arr' _ _ g3⟩,fun j s e1 ys1 u hz hu=>by
   rw [hget] at hz
   rw [Zl (setRow_heap w b arr arr' _ _ g3),hget'] at hu
   by_cases hj:j=i*P.cellsOf (bT E)+off
   ·rw [if_pos hj] at hz hu
    simp only [Xf,AV.nest.injEq,true_and] at hz hu
    obtain ⟨rfl,rfl,rfl⟩:=hz
    subst hu
    show _∧_∧Vz c.P _ lim Xb e ys (tm.getD t undef) (if j=i*P.cellsOf (bT E)+off then X t 0 else X1 (ngN+b) j)
    rw [if_pos hj]
    refine ⟨by rw [hc],hem',?_⟩
    have ho1:Vz c.P w lim Xb e ys (tm.getD t undef) (X t 0):=k2.noMap hem'
    refine ho1.mono hstep.ext fun b' hb'=>hstep.blk b' (hsim.ours t 0 b' hb').1 fun e'=>(k3 b' hb').2 d q (by rw [e'];exact hX1)
   ·rw [if_neg hj] at hz hu
    show _∧_∧Vz c.P _ lim Xb e1 ys1 u (if j=i*P.cellsOf (bT E)+off then X t 0 else X1 (ngN+b) j)
    rw [if_neg hj]
    obtain ⟨m1,m2,m3⟩:=(k1.nst d q E xs b (Z4 hd1) hdp' hX1).2 j s e1 ys1 u hz (by rw [Zl g3];exact hu)
    exact ⟨m1,m2,m3.mono hstep.ext fun b' hb'=>hYk _ j b' hb' (by omega)⟩⟩)
 rw [hxd,hsd] at hset
 refine JU (w':=w.setRow b arr') ?_ (hnx undef _ ?_)
 ·have hev:Act.eval ⟨tm,[]⟩ (.tmp t)=tm.getD t undef:=rfl
  simp only [XN,Up,XM] at hst
  rw [harr]
  simp only [execOp,ho,h3,hev,Sem.run_bind,hst,Result.andThen_ok,Sem.run_pure]
 ·rw [Kz]
  exact ZE hset rfl (k:=0) trivial
theorem ZgR {z:AV} (h:z.isCell=Xb):(Zbi z).isCell=Xb:=by
 unfold Zbi
 split
 ·rfl
 ·exact h
theorem Zq6 {z:AV} {s:Nat} {e:TypeId} {ys:List (List AV)} (h:Zbi z = .nest s Xb e ys):False:=by
 unfold Zbi at h
 split at h
 ·cases h
 ·rename_i hn
  exact hn _ _ _ h
theorem Vz.lim0 {P:Program} {w:World} {lim:Nat→Nat} {e:TypeId} {xs:List (List AV)} {v:Value} {b:Nat} (h:Vz P w lim Xb e xs v (Xa b)):lim b=0:=by
 rcases h with ⟨us,_,_,h,_⟩ | ⟨_,h,_⟩
 ·exact h b rfl
 ·cases h
theorem Vz.see {P:Program} {w:World} {lim lim':Nat→Nat} {e:TypeId} {xs:List (List AV)} {v:Value} {ob:Option Nat} (h:Vz P w lim Xb e xs v ob) (he:Ext w lim w lim') (hl:∀ b,ob=Xa b→lim' b=xs.length*P.cellsOf e):Vz P w lim' Xc e xs v ob:=by
 rcases h with ⟨us,h1,h2,h3,h4,h5,h6⟩ | h
 ·exact .inl ⟨us,h1,h2,fun b hb=>by rw [if_neg (by simp),hl b hb,h1.1],h4,h5,fun j c u hc hu=>(h6 j c u hc hu).mono he⟩
 ·exact .inr h
theorem Sim.deepFreeze {c:Ctx} {σ:Nat→AV} {tm:Array Value} {w:World} {lim:Nat→Nat} {X:Nat→Nat→Option Nat} (h:Sim c σ tm w lim X) {d k b:Nat} {E E':TypeId} {xs xs':List (List AV)} (F:Nat→Prop)
  (hp:Zr (σ d) k=Xa (E,xs)) (hng:(σ d).isG=Xc) (hX:X d k=Xa b) (hdp:Zg c.P E=Xb) (hE':E'=E∨(E'=bT E∧∀ i,¬ Jl (σ i) d k)) (hl:xs'.length=xs.length) (h1:∀ x∈xs',x.length=c.P.cellsOf (bT E)) (h2:∀ x∈xs',∀ z∈x,z.isCell=Xb)
  (hxs:∀ j z,xs'.flatten[j]? = Xa z→∃ c0,xs.flatten[j]? = Xa c0∧(F j→z=Zbi c0)∧(¬ F j→z=c0)) :
  ∃ lim' X',Sim c (upd σ d (Zp (σ d) k Xb E' xs')) tm w lim' X'∧∀ (arr:Array Value),w.heap[b]? = Xa (.cells arr (bT E) (0,0))→∀ (j:Nat) (z:AV) (u:Value),xs'.flatten[j]? = Xa z→arr[j]? = Xa u→Rep w lim' z u:=by
 classical
 obtain ⟨v0,ho⟩:=J4 h hp
 rw [hX] at ho
 have hdb:ZdH c.P w E (Xa b):=by rw [← hX];exact h.deepB (Z4 hp)
 obtain ⟨arr,cap,g1,g2,g3,g4,g5,g6,g7,g8,g9⟩:=KK ho (.inr hdp) hdb
 have hbm:=ZaO h hp hX hdp
 have hN:=(h.nst d k E xs b (Z4 hp) hdp hX).2
 have hdf:d < ngN:=by
  rcases XD d ngN with hlt | hge
  ·exact hlt
  ·rw [h.far d hge] at hp;cases hp
 have hxl:=Zh xs _ g7
 have hcell:∀ j,j < xs.flatten.length→∃ u,arr[j]? = Xa u:=fun j hj=>by
  have hm:xs.length*c.P.cellsOf (bT E)≤cap*c.P.cellsOf (bT E):=XF _ g4
  exact ⟨arr[j]'(by omega),X8 (by omega)⟩
 let R:Nat→Nat→Prop:=fun b' n=>∃ j s e ys,F j∧X (ngN+b) j=Xa b'∧xs.flatten[j]? = Xa (.nest s Xb e ys)∧n=ys.length*s
 let lim':Nat→Nat:=fun b'=>if hb:∃ n,R b' n then Classical.choose hb else lim b'
 have hR:∀ b' n,R b' n→lim' b'=n:=fun b' n hr=>by
  have hb:∃ n,R b' n:=⟨n,hr⟩
  show (if hb:∃ n,R b' n then Classical.choose hb else lim b')=n
  rw [dif_pos hb]
  obtain ⟨j1,s1,e1,ys1,m1,m2,m3,m4⟩:=Classical.choose_spec hb
  obtain ⟨j2,s2,e2,ys2,n1,n2,n3,n4⟩:=hr
  have hj:=(h.dist _ j1 _ j2 b' m2 n2).2
  subst hj
  rw [m3] at n3
  simp only [Xf,AV.nest.injEq,true_and] at n3
  obtain ⟨rfl,rfl,rfl⟩:=n3
  rw [m4,n4]
 have hnR:∀ b',(¬ ∃ n,R b' n)→lim' b'=lim b':=fun b' hb=>dif_neg hb
 have hR0:∀ b' n,R b' n→lim b'=0:=fun b' n hr=>by
  obtain ⟨j,s,e,ys,m1,m2,m3,_⟩:=hr
  obtain ⟨u,hu⟩:=hcell j (Xn.1 m3).1
  obtain ⟨_,_,m4⟩:=hN j s e ys u m3 (by rw [Zl g2];exact hu)
  rw [m2] at m4
  exact m4.lim0
 have hext:Ext w lim w lim':=fun b' _=>⟨by
  by_cases hb:∃ n,R b' n
  ·obtain ⟨n,hr⟩:=hb;rw [hR0 b' n hr];exact XZ _
  ·rw [hnR b' hb];exact XA _,fun _ _ _ hu=>hu⟩
 have hstep:ZU w lim w lim' (fun b'=>∃ j,X (ngN+b) j=Xa b'):=⟨rfl,rfl,rfl,XA _,fun _ _=>rfl,fun b' _ hn=>⟨rfl,hnR b' fun ⟨n,j,_,_,_,_,m2,_⟩=>hn ⟨j,m2⟩⟩,hext⟩
 have hbb:lim' b=0:=by
  rw [hnR b fun ⟨n,j,_,_,_,_,m2,_⟩=>by
   have:=(h.dist (ngN+b) j d k b m2 hX).1;omega]
  exact g3
 have hrep:∀ (j:Nat) (z:AV) (u:Value),xs'.flatten[j]? = Xa z→arr[j]? = Xa u→Rep w lim' z u:=fun j z u hz hu=>by
  obtain ⟨c0,m1,m2,m3⟩:=hxs j z hz
  have hold:=(g9 j c0 u m1 hu).mono hext
  by_cases hF:F j
  ·rw [m2 hF]
   unfold Zbi
   split
   ·rename_i s e ys
    obtain ⟨n1,n2,n3⟩:=hN j s e ys u m1 (by rw [Zl g2];exact hu)
    subst n1
    exact ZY.rep (n3.see hext fun b' hb'=>hR b' _ ⟨j,_,e,ys,hF,hb',m1,rfl⟩).own Xc rfl
   ·exact hold
  ·rw [m3 hF];exact hold
 have hbt:bT (bT E)=bT E:=KE hbm
 refine ⟨lim',_,h.deepStep (E':=E') (Y':=X (ngN+b)) hp hng hX (hstep.sub fun _ hh=>.inr hh) (Vg (.inr hdp) hdb g2 g2 rfl hl hbb h1 h2 hrep ?_) hl (.of rfl) (hE'.imp id fun h=>h.2) ?_ (fun j b' hb'=>.inl ⟨j,hb'⟩) (fun j j' b' q1 q2=>(h.dist _ j _ j' b' q1 q2).2) (fun hd'=>⟨⟨arr,?_⟩,fun j s e ys u hz hu=>?_⟩),fun arr' ha'=>?_⟩
 ·rcases hE' with rfl | ⟨rfl,_⟩
  ·exact .inr ⟨hdp,rfl,hbm⟩
  ·exact .inl rfl
 ·rcases hE' with rfl | ⟨rfl,_⟩
  ·exact .mv (.inr (.inl hdp))
  ·exact .noMap hbm
 ·rcases hE' with rfl | ⟨rfl,_⟩
  ·exact g2
  ·rw [hbt];exact g2
 ·obtain ⟨c0,m1,m2,m3⟩:=hxs j _ hz
  by_cases hF:F j
  ·exact (Zq6 (m2 hF).symm).elim
  ·have:=m3 hF
   subst this
   obtain ⟨n1,n2,n3⟩:=hN j s e ys u m1 hu
   refine ⟨n1,n2,n3.mono hext fun b' hb'=>⟨rfl,hnR b' fun ⟨n,j',_,_,_,q1,q2,_⟩=>?_⟩⟩
   have:=(h.dist _ j' _ j b' q2 hb').2
   subst this
   exact hF q1
 ·rw [g2] at ha'
  simp only [Xf,Obj.cells.injEq,and_true] at ha'
  subst ha'
  exact hrep
theorem Sim.retype0 {c:Ctx} {σ:Nat→AV} {tm:Array Value} {w:World} {lim:Nat→Nat} {X:Nat→Nat→Option Nat} (h:Sim c σ tm w lim X) {d k:Nat} {E E':TypeId} {xs:List (List AV)}
  (hp:Zr (σ d) k=Xa (E,xs)) (hng:(σ d).isG=Xc) (hX:X d k=Xe) (hm:Zk c.P E=Xc∨Zg c.P E=Xb) (hm':Zk c.P E'=Xc∨Zg c.P E'=Xb) (href:∀ i,¬ Jl (σ i) d k) :
  xs = []∧Sim c (upd σ d (Zp (σ d) k Xb E' [])) tm w lim X:=by
 obtain ⟨v0,ho⟩:=J4 h hp
 have hdb:ZdH c.P w E (X d k):=h.deepB (Z4 hp)
 have hnew:∀ v,ZY c.P w lim Xb E xs v Xe→xs = []∧ZY c.P w lim Xb E' [] v Xe:=fun v hv=>by
  rcases hv.one hm (by rw [← hX];exact hdb) with ⟨us,g1,g2,_⟩ | ⟨g1,_,g3⟩
  ·rcases g1.2 with ⟨hv,hn⟩ | ⟨g,cap,cur,hv,_⟩
   ·subst hv
    exact ⟨Ub hn,.inl ⟨[],World.ownsRow_nil _ 0 _ _,rfl,by simp,by simp,by simp,by simp⟩⟩
   ·rw [hv] at g2;cases g2
  ·exact ⟨g1,.inr (.inl ⟨rfl,rfl,g3⟩)⟩
 have hxs:xs = []:=by rw [hX] at ho;exact (hnew _ ho).1
 refine ⟨hxs,?_⟩
 subst hxs
 obtain ⟨q1,q2,q3,q4,q5,q6⟩:=Zam (e':=E') (xs':=[]) hp hng
 have hG:∀ i,(σ i).isG=Xb→i≠d:=fun i hi e=>by rw [e,hng] at hi;cases hi
 have hdd:σ d≠.dead:=fun e=>by rw [e] at hp;cases hp
 refine ⟨fun i=>?_,h.size,fun i hi=>?_,fun i hi=>?_,h.dist,h.ours,h.frm,fun i v hv=>?_,fun i e1 xs1 he=>?_,fun i b hb=>?_,h.ntN,fun i hi=>?_,fun i p e1 xs1 b1 m1 m2 m3=>?_,h.yfr⟩
 ·by_cases hi:i=d
  ·subst hi
   rw [ZC]
   have hr:=h.rel i
   rcases ZG hp with ⟨g1,rfl⟩ | ⟨cs,q,g1,rfl,g2⟩ | ⟨_,_,g1,_⟩
   case inr.inr=>rw [g1] at hng;cases hng
   ·rw [g1] at hr ⊢
    have hr':ZY c.P w lim Xb E [] (tm.getD i undef) (X i 0):=hr
    rw [hX] at hr'
    show ZY c.P w lim Xb E' [] _ (X i 0)
    rw [hX]
    exact (hnew _ hr').2
   ·rw [g1] at hr ⊢
    obtain ⟨b0,arr,t,k1,k2,k3,k4,k5,k6,k7⟩:=(show ZN c.P w lim (X i) cs _ from hr)
    refine ⟨b0,arr,t,k1,k2,k3,by rw [Ud];exact k4,k5,fun x hx=>?_,fun j x u hx hu=>?_⟩
    ·rcases Ue hx with hx | hx
     ·exact k6 x hx
     ·exact .inr (.inl ⟨_,_,_,hx⟩)
    ·by_cases hj:j=q
     ·subst hj
      rw [Uq (Xn.1 g2).1] at hx
      simp only [Xf] at hx
      subst hx
      have hc:ZY c.P w lim Xb E [] u (X i (j+1)):=k7 j _ u g2 hu
      rw [hX] at hc
      show ZY c.P w lim Xb E' [] u (X i (j+1))
      rw [hX]
      exact (hnew u hc).2
     ·rw [Ur (fun h=>hj h.symm)] at hx
      exact k7 j x u hx hu
  ·rw [Zf σ _ hi]
   refine (h.rel i).chg rfl (fun d' cs hd'=>⟨?_,rfl⟩) (fun d' hd'=>⟨?_,rfl⟩) fun d' p hr=>⟨?_,rfl⟩
   ·by_cases hdd:d'=d
    ·subst hdd;rw [ZC];exact q6 cs hd'
    ·exact ⟨cs,by rw [Zf σ _ hdd];exact hd'⟩
   ·rw [Zf σ _ (hG d' hd')];exact hd'
   ·by_cases hdd:d'=d
    ·subst hdd
     rw [ZC]
     have hpk:p≠k:=fun e=>href i (e ▸ hr)
     intro e1 ys hy
     exact ⟨ys,by rw [q2 p hpk];exact hy,rfl⟩
    ·rw [Zf σ _ hdd];exact KF.refl _ _
 ·by_cases hid:i=d
  ·subst hid
   rcases h.out i hi with h1 | h1
   ·exact (hdd h1).elim
   ·exact (hG i h1 rfl).elim
  ·rw [Zf σ _ hid];exact h.out i hi
 ·by_cases hid:i=d
  ·subst hid;rw [ZC,q5] at hi;cases hi
  ·rw [Zf σ _ hid] at hi;exact h.ghost i hi
 ·obtain ⟨g1,cs,g2⟩:=h.pin i v hv
  by_cases hid:i=d
  ·subst hid
   obtain ⟨cs',hcs⟩:=q6 cs g2
   exact ⟨g1,cs',by rw [ZC];exact hcs⟩
  ·exact ⟨g1,cs,by rw [Zf σ _ hid];exact g2⟩
 ·by_cases hid:i=d
  ·subst hid
   rw [ZC] at he
   have hk0:k=0:=by
    cases k with
    | zero => rfl
    | succ k => rw [he] at q1; simp [Zr] at q1
   subst hk0
   exact .none hX
  ·rw [Zf σ _ hid] at he;exact h.mp i e1 xs1 he
 ·obtain ⟨g1,g2⟩:=h.gpin i b hb
  exact ⟨g1,by rw [Zf σ _ (hG i g2)];exact g2⟩
 ·by_cases hid:i=d
  ·subst hid;exact (hdd (h.far i hi)).elim
  ·rw [Zf σ _ hid];exact h.far i hi
 ·by_cases hid:i=d
  ·subst hid
   by_cases hpk:p=k
   ·subst hpk;rw [hX] at m3;cases m3
   ·rw [ZC,q3 p hpk] at m1
    exact h.nst i p e1 xs1 b1 m1 m2 m3
  ·rw [Zf σ _ hid] at m1
   exact h.nst i p e1 xs1 b1 m1 m2 m3
theorem Ko (f:AV→AV):∀ (xs:List (List AV)) (j:Nat),(xs.map fun r=>r.map f).flatten[j]? = (xs.flatten[j]?).map f
 | xs, j => by rw [← List.map_flatten, Xl]
theorem Sim.undeep {c:Ctx} {σ:Nat→AV} {tm:Array Value} {w:World} {lim:Nat→Nat} {X:Nat→Nat→Option Nat} (h:Sim c σ tm w lim X) {d k:Nat} {E:TypeId} {xs:List (List AV)}
  (hp:Zr (σ d) k=Xa (E,xs)) (hng:(σ d).isG=Xc) (hdp:Zg c.P E=Xb) (hem:Zk c.P (bT E)=Xc) (href:∀ i,¬ Jl (σ i) d k):∃ lim' X',Sim c (upd σ d (Zp (σ d) k Xb (bT E) (Yl xs))) tm w lim' X':=by
 cases hX:X d k with
 | none =>
  obtain ⟨rfl,h1⟩:=h.retype0 (E':=bT E) hp hng hX (.inr hdp) (.inl hem) href
  exact ⟨lim,X,h1⟩
 | some b =>
  obtain ⟨v0,ho⟩:=J4 h hp
  rw [hX] at ho
  obtain ⟨arr,cap,g1,g2,g3,g4,g5,g6,g7,g8,g9⟩:=KK ho (.inr hdp) (by rw [← hX];exact h.deepB (Z4 hp))
  have hA:∀ x∈Yl xs,x.length=c.P.cellsOf (bT E):=fun x hx=>by
   obtain ⟨r,hr,rfl⟩:=Xm.1 hx
   rw [Xi];exact g7 r hr
  have hB:∀ x∈Yl xs,∀ z∈x,z.isCell=Xb:=fun x hx z hz=>by
   obtain ⟨r,hr,rfl⟩:=Xm.1 hx
   obtain ⟨y,hy,rfl⟩:=Xm.1 hz
   exact ZgR (g8 r hr y hy)
  obtain ⟨lim',X',h1,_⟩:=h.deepFreeze (E':=bT E) (xs':=Yl xs) (fun _=>True) hp hng hX hdp (.inr ⟨rfl,href⟩) (by simp [Yl]) hA hB (fun j z hz=>by
   rw [Yl,Ko] at hz
   cases hc:xs.flatten[j]? with
   | none => rw [hc] at hz; cases hz
   | some c0 =>
    rw [hc] at hz
    simp only [Xv,Xf] at hz
    exact ⟨c0,rfl,fun _=>hz.symm,fun hh=>(hh trivial).elim⟩)
  exact ⟨lim',X',h1⟩
theorem Zla {z:AV} (h:z.isCell=Xb):(ZqS z).isCell=Xb:=by
 unfold ZqS
 split
 ·rfl
 ·exact h
theorem Zod {w:World} {lim:Nat→Nat} {z:AV} {v:Value} (h:Rep w lim z v):Rep w lim (ZqS z) v:=by
 unfold ZqS
 split
 ·cases h;exact .nest
 ·exact h
theorem Zq2 {z:AV} {s:Nat} {e:TypeId} {ys:List (List AV)} (h:ZqS z = .nest s Xb e ys):False:=by
 unfold ZqS at h
 split at h
 ·cases h
 ·rename_i hn
  exact hn _ _ _ h
theorem Sim.deepen {c:Ctx} {σ:Nat→AV} {tm:Array Value} {w:World} {lim:Nat→Nat} {X:Nat→Nat→Option Nat} (h:Sim c σ tm w lim X) {d k:Nat} {e E:TypeId} {xs:List (List AV)}
  (hp:Zr (σ d) k=Xa (e,xs)) (hng:(σ d).isG=Xc) (hem:Zk c.P e=Xc) (hdp:Zg c.P E=Xb) (hE:bT E=e) (href:∀ i,¬ Jl (σ i) d k):∃ X',Sim c (upd σ d (Zp (σ d) k Xb E (ZmD xs))) tm w lim X':=by
 cases hX:X d k with
 | none =>
  obtain ⟨rfl,h1⟩:=h.retype0 (E':=E) hp hng hX (.inl hem) (.inr hdp) href
  exact ⟨X,h1⟩
 | some b =>
  obtain ⟨v0,ho⟩:=J4 h hp
  rw [hX] at ho
  have hdb:ZdH c.P w e (Xa b):=by rw [← hX];exact h.deepB (Z4 hp)
  obtain ⟨arr,cap,g1,g2,g3,g4,g5,g6,g7,g8,g9⟩:=KK ho (.inl hem) hdb
  have hbe:bT e=e:=KE hem
  refine ⟨_,h.deepStep (w':=w) (lim':=lim) (E':=E) (xs':=ZmD xs) (Y':=X (ngN+b)) hp hng hX (ZU.refl w lim _) (Vg (.inl hem) hdb g2 g2 rfl (by simp [ZmD]) g3 (fun x hx=>?_) (fun x hx z hz=>?_) (fun j z u hz hu=>?_) (.inr ⟨hdp,by rw [hE,hbe],by rw [hbe];exact hem⟩)) (by simp [ZmD]) (.of rfl) (.inr href) (.mv (.inr (.inl hdp)))
   (fun j b' hb'=>.inl ⟨j,hb'⟩) (fun j j' b' q1 q2=>(h.dist _ j _ j' b' q1 q2).2) (fun _=>⟨⟨arr,by rw [hE,← hbe];exact g2⟩,fun j s e1 ys u hz hu=>?_⟩)⟩
  ·obtain ⟨r,hr,rfl⟩:=Xm.1 hx
   rw [Xi];exact g7 r hr
  ·obtain ⟨r,hr,rfl⟩:=Xm.1 hx
   obtain ⟨y,hy,rfl⟩:=Xm.1 hz
   exact Zla (g8 r hr y hy)
  ·rw [ZmD,Ko] at hz
   cases hc:xs.flatten[j]? with
   | none => rw [hc] at hz; cases hz
   | some c0 =>
    rw [hc] at hz
    simp only [Xv,Xf] at hz
    subst hz
    exact Zod (g9 j c0 u hc hu)
  ·rw [ZmD,Ko] at hz
   cases hc:xs.flatten[j]? with
   | none => rw [hc] at hz; cases hz
   | some c0 =>
    rw [hc] at hz
    simp only [Xv,Xf] at hz
    exact (Zq2 hz).elim
theorem ZfH {xs:List (List AV)} {s i off:Nat} {row:List AV} {z:AV} (h:∀ x∈xs,x.length=s) (hr:xs[i]? = Xa row) (hz:row[off]? = Xa z):xs.flatten[i*s+off]? = Xa z:=by
 have hlt:=(Xn.1 hz).1
 rw [h row (Xj hr)] at hlt
 rw [JT xs s h i row hr off hlt]
 exact hz
theorem ZdK {P:Program} {o:Oper} {σ:Nat→AV} {T E e:TypeId} {a:Operand} {d q i off s:Nat} {xs ys:List (List AV)} {row:List AV} (ho:o.op = .load T a) (hT:Z2 P T=Xa Xc) (ha:Zt P σ a = .eref d q (i*P.cellsOf (bT E)+off)) (hd:Zr (σ d) q=Xa (E,xs)) (hng:(σ d).isG=Xc)
  (hrow:xs[i]? = Xa row) (hz:row[off]? = Xa (.nest s Xb e ys)) (hdp:Zg P E=Xb) :
  JO P o σ (.own Xb e ys) [(d,Zp (σ d) q Xb E (Zq xs i off [.nest s Xc e []]))] [d]:=by
 intro c hc σ' tm w lim X hid hag hsim next Q hnx
 have hga:Zt P σ' a=Zt P σ a:=ZJ fun t ht=>hid t (by simp [Zw (o:=o) (x:=a) (by rw [ho];simp [Op.operands]) ht])
 have hsd:σ' d=σ d:=hag d (by simp)
 have hd':Zr (σ' d) q=Xa (E,xs):=by rw [hsd,hd]
 have hva:=Yj hc hsim ha hga
 rw [← hc] at hva
 have hdp':Zg c.P E=Xb:=by rw [hc];exact hdp
 obtain ⟨b,arr,cap,g1,h3,g3,g4,g6,g7,g8,g9,g10,g11⟩:=Kx hsim hd' hva (.inr hdp')
 have hbm:=ZaO hsim hd' g1 hdp'
 have hflat:=ZfH g9 hrow hz
 rw [hc] at g8 g9 h3 hflat
 have hdf:d < ngN:=by
  rcases XD d ngN with hlt | hge
  ·exact hlt
  ·rw [hsim.far d hge] at hd';cases hd'
 have hxl:=Zh xs _ g9
 have hil:=(Xn.1 hrow).1
 have hol:off < P.cellsOf (bT E):=by rw [← g9 row (Xj hrow)];exact (Xn.1 hz).1
 have hmul:i*P.cellsOf (bT E)+P.cellsOf (bT E)≤xs.length*P.cellsOf (bT E):=by
  rw [← Uj];exact XF _ hil
 have hcap:xs.length*P.cellsOf (bT E)≤cap*P.cellsOf (bT E):=XF _ g6
 have hmem:=Ys (i:=i) (o:=off) (e:=[AV.nest s Xc e []]) g9 g10 (by simp;omega) (fun z hz=>by simp at hz;subst hz;rfl)
 obtain ⟨u,hu⟩:∃ u,arr[i*P.cellsOf (bT E)+off]? = Xa u:=⟨arr[i*P.cellsOf (bT E)+off]'(by omega),X8 (by omega)⟩
 have hcell:w.cell? ⟨b,i*P.cellsOf (bT E)+off,Xe⟩=Xa u:=by rw [Zl g3];exact hu
 obtain ⟨n1,n2,n3⟩:=(hsim.nst d q E xs b (Z4 hd') hdp' g1).2 _ s e ys u hflat hcell
 have hfl:=Jz (i:=i) (o:=off) (e:=[AV.nest s Xc e []]) g9 hil (by simp;omega)
 have hget:∀ j,(Zq xs i off [AV.nest s Xc e []]).flatten[j]? = if j=i*P.cellsOf (bT E)+off then Xa (.nest s Xc e []) else xs.flatten[j]?:=fun j=>by
  rw [hfl,KO _ _ _ (by simp [hxl];omega)]
  by_cases hj:j=i*P.cellsOf (bT E)+off
  ·subst hj;rw [if_pos (by simp),if_pos rfl];simp
  ·rw [if_neg (by simp;omega),if_neg hj]
 have hset:=hsim.deepStep (w':=w) (lim':=lim) (E':=E) (xs':=Zq xs i off [AV.nest s Xc e []]) (Y':=fun j=>if j=i*P.cellsOf (bT E)+off then Xe else X (ngN+b) j) hd' (by rw [hsd];exact hng) g1 (ZU.refl w lim _)
  (Vg (.inr hdp') (by rw [← g1];exact hsim.deepB (Z4 hd')) g3 g3 rfl (by simp [Zq]) g4 (fun x hx=>by rw [hc];exact (hmem x hx).1) (fun x hx=>(hmem x hx).2) (fun j z u' hz' hu'=>by
   rw [hget] at hz'
   by_cases hj:j=i*P.cellsOf (bT E)+off
   ·rw [if_pos hj] at hz'
    simp only [Xf] at hz'
    subst hz'
    have:=g11 j _ u' (by rw [hj];exact hflat) hu'
    cases this
    exact .nest
   ·rw [if_neg hj] at hz';exact g11 j z u' hz' hu') (.inr ⟨hdp',rfl,hbm⟩))
  (by simp [Zq]) (.of rfl) (.inl rfl) (.mv (.inr (.inl hdp'))) (fun j b' hb'=>by
   by_cases hj:j=i*P.cellsOf (bT E)+off
   ·rw [if_pos hj] at hb';cases hb'
   ·rw [if_neg hj] at hb';exact .inl ⟨j,hb'⟩) (fun j j' b' q1 q2=>by
   by_cases hj:j=i*P.cellsOf (bT E)+off
   ·rw [if_pos hj] at q1;cases q1
   ·by_cases hj':j'=i*P.cellsOf (bT E)+off
    ·rw [if_pos hj'] at q2;cases q2
    ·rw [if_neg hj] at q1;rw [if_neg hj'] at q2;exact (hsim.dist _ j _ j' b' q1 q2).2)
  (fun _=>⟨⟨arr,g3⟩,fun j s1 e1 ys1 u' hz' hu'=>by
   rw [hget] at hz'
   by_cases hj:j=i*P.cellsOf (bT E)+off
   ·rw [if_pos hj] at hz';cases hz'
   ·rw [if_neg hj] at hz'
    show _∧_∧Vz c.P w lim Xb e1 ys1 u' (if j=i*P.cellsOf (bT E)+off then Xe else X (ngN+b) j)
    rw [if_neg hj]
    exact (hsim.nst d q E xs b (Z4 hd') hdp' g1).2 j s1 e1 ys1 u' hz' hu'⟩)
 rw [hsd] at hset
 refine Zs (v:=u) (w':=w) ?_ (hnx _ w (Z3 (ob:=X (ngN+b) (i*P.cellsOf (bT E)+off)) hset n3.own (fun b' hb'=>⟨(hsim.ours _ _ b' hb').2,fun i' j' hij=>?_⟩) (fun _=>.noMap n2) fun _ hd0=>by rw [ZT n2] at hd0;cases hd0))
 ·simp [execOp,ho,h3,JG hT hcell]
 ·by_cases hi':i'=ngN+b
  ·subst hi'
   rw [Zo] at hij
   by_cases hj:j'=i*P.cellsOf (bT E)+off
   ·rw [if_pos hj] at hij;cases hij
   ·rw [if_neg hj] at hij
    exact hj (hsim.dist _ j' _ _ b' hij hb').2
  ·rw [Zj X _ hi'] at hij
   exact hi' (hsim.dist i' j' _ _ b' hij hb').1
theorem Zoo {xs:List (List AV)} {i off m:Nat} {row:List AV} (hr:xs[i]? = Xa row) (h:off+m≤row.length):JZ xs i off m=Zq xs i off (((row.drop off).take m).map Zbi):=by
 unfold JZ Zq
 refine UD fun j=>?_
 rw [U2,U2]
 by_cases hj:i=j
 ·subst hj
  rw [hr]
  simp only [if_pos,Option.map_eq_map,Xv,setCells]
  have:(List.map Zbi (List.take m (List.drop off row))).length=m:=by simp;omega
  rw [this]
 ·simp only [if_neg hj]
theorem Sim.deepRead {c:Ctx} {σ:Nat→AV} {tm:Array Value} {w:World} {lim:Nat→Nat} {X:Nat→Nat→Option Nat} (h:Sim c σ tm w lim X) {d q k i off m:Nat} {E:TypeId} {xs:List (List AV)} {row:List AV} {v:Value} (hd:Zr (σ d) q=Xa (E,xs)) (hng:(σ d).isG=Xc)
  (hv:ZZ c.P w lim X σ k (.eref d q (i*c.P.cellsOf (bT E)+off)) v) (hrow:xs[i]? = Xa row) (hn:off+m≤c.P.cellsOf (bT E)) (hdp:Zg c.P E=Xb) :
  ∃ b lim' X' us,v = .pointer (Xa ⟨b,i*c.P.cellsOf (bT E)+off,Xe⟩)∧Sim c (upd σ d (Zp (σ d) q Xb E (JZ xs i off m))) tm w lim' X'∧us.length=m∧(∀ (j:Nat) (u:Value),us[j]? = Xa u→w.cell? ⟨b,i*c.P.cellsOf (bT E)+off+j,Xe⟩=Xa u)∧
   YC w lim' (((row.drop off).take m).map Zbi) us:=by
 obtain ⟨b,arr,cap,g1,h3,g3,g4,g6,g7,g8,g9,g10,g11⟩:=Kx h hd hv (.inr hdp)
 have hil:=(Xn.1 hrow).1
 have hrl:=g9 row (Xj hrow)
 have hmul:i*c.P.cellsOf (bT E)+c.P.cellsOf (bT E)≤xs.length*c.P.cellsOf (bT E):=by
  rw [← Uj];exact XF _ hil
 have hcap:xs.length*c.P.cellsOf (bT E)≤cap*c.P.cellsOf (bT E):=XF _ g6
 have hxl:=Zh xs _ g9
 have hset:=Zoo (off:=off) (m:=m) hrow (by omega)
 have hlen:(((row.drop off).take m).map Zbi).length=m:=by simp;omega
 have hcs:∀ z∈((row.drop off).take m).map Zbi,z.isCell=Xb:=fun z hz=>by
  obtain ⟨y,hy,rfl⟩:=Xm.1 hz
  exact ZgR (g10 row (Xj hrow) y (XS (XP hy)))
 have hmem:=Ys (i:=i) (o:=off) g9 g10 (by rw [hlen];exact hn) hcs
 have hfl:=Jz (i:=i) (o:=off) (e:=((row.drop off).take m).map Zbi) g9 hil (by rw [hlen];exact hn)
 have hget:∀ j,(JZ xs i off m).flatten[j]? = if i*c.P.cellsOf (bT E)+off≤j∧j < i*c.P.cellsOf (bT E)+off+m then (((row.drop off).take m).map Zbi)[j-(i*c.P.cellsOf (bT E)+off)]? else xs.flatten[j]?:=fun j=>by
  rw [hset,hfl,KO _ _ _ (by rw [hlen,hxl];omega),hlen]
 have hrowat:∀ j,j < m→xs.flatten[i*c.P.cellsOf (bT E)+off+j]? = row[off+j]?:=fun j hj=>by
  rw [Uw];exact JT xs _ g9 i row hrow (off+j) (by omega)
 obtain ⟨lim',X',k1,k2⟩:=h.deepFreeze (E':=E) (xs':=JZ xs i off m) (fun j=>i*c.P.cellsOf (bT E)+off≤j∧j < i*c.P.cellsOf (bT E)+off+m) hd hng g1 hdp (.inl rfl) (by rw [hset];simp [Zq]) (fun x hx=>by rw [hset] at hx;exact (hmem x hx).1) (fun x hx=>by rw [hset] at hx;exact (hmem x hx).2) (fun j z hz=>by
  rw [hget] at hz
  by_cases hj:i*c.P.cellsOf (bT E)+off≤j∧j < i*c.P.cellsOf (bT E)+off+m
  ·rw [if_pos hj,Xl,Xz,if_pos (by omega),XI] at hz
   have hr:=hrowat (j-(i*c.P.cellsOf (bT E)+off)) (by omega)
   rw [show i*c.P.cellsOf (bT E)+off+(j-(i*c.P.cellsOf (bT E)+off))=j by omega] at hr
   rw [hr]
   cases hc:row[off+(j-(i*c.P.cellsOf (bT E)+off))]? with
   | none => rw [hc] at hz; cases hz
   | some c0 =>
    rw [hc] at hz
    simp only [Xv,Xf] at hz
    exact ⟨c0,rfl,fun _=>hz.symm,fun hh=>(hh hj).elim⟩
  ·rw [if_neg hj] at hz
   exact ⟨z,hz,fun hh=>(hj hh).elim,fun _=>rfl⟩)
 refine ⟨b,lim',X',(arr.toList.drop (i*c.P.cellsOf (bT E)+off)).take m,h3,k1,by simp [g8];omega,fun j u hj=>?_,?_⟩
 ·rw [Xz] at hj
  split at hj
  ·rw [XI] at hj
   rw [Zl g3]
   simpa using hj
  ·cases hj
 ·refine ⟨by rw [hlen];simp [g8];omega,hcs,fun j z u hz hu=>?_⟩
  have hjm:j < m:=by rw [← hlen];exact (Xn.1 hz).1
  rw [Xz,if_pos hjm,XI] at hu
  refine k2 arr g3 (i*c.P.cellsOf (bT E)+off+j) z u ?_ (by simpa using hu)
  rw [hget,if_pos (by omega),show i*c.P.cellsOf (bT E)+off+j-(i*c.P.cellsOf (bT E)+off)=j by omega]
  exact hz
theorem W8 {P:Program} {o:Oper} {σ:Nat→AV} {T E:TypeId} {a:Operand} {d q i off:Nat} {xs:List (List AV)} {row:List AV} (ho:o.op = .load T a) (hT:Z2 P T=Xa Xb) (ha:Zt P σ a = .eref d q (i*P.cellsOf (bT E)+off)) (hd:Zr (σ d) q=Xa (E,xs)) (hng:(σ d).isG=Xc)
  (hrow:xs[i]? = Xa row) (hn:off+P.cellsOf T≤P.cellsOf (bT E)) (hdp:Zg P E=Xb) :
  JO P o σ (.agg (((row.drop off).take (P.cellsOf T)).map Zbi)) [(d,Zp (σ d) q Xb E (JZ xs i off (P.cellsOf T)))] [d]:=by
 intro c hc σ' tm w lim X hid hag hsim next Q hnx
 subst hc
 have hga:Zt c.P σ' a=Zt c.P σ a:=ZJ fun t ht=>hid t (by simp [Zw (o:=o) (x:=a) (by rw [ho];simp [Op.operands]) ht])
 have hsd:σ' d=σ d:=hag d (by simp)
 obtain ⟨b,lim',X',us,h3,k1,k2,k3,k4⟩:=hsim.deepRead (m:=c.P.cellsOf T) (by rw [hsd];exact hd) (by rw [hsd];exact hng) (Yj rfl hsim ha hga) hrow hn hdp
 rw [hsd] at k1
 refine Zs (v:=.agg us.toArray) (w':=w) ?_ (hnx _ w (ZE k1 rfl (k:=0) ?_))
 ·simp [execOp,ho,h3,J3 hT k2 k3]
 ·exact .agg k4.1 k4.2.1 k4.2.2
theorem WJ {P:Program} {o:Oper} {σ:Nat→AV} {T E:TypeId} {a:Operand} {d q i off:Nat} {xs:List (List AV)} {row:List AV} {x:AV} (ho:o.op = .load T a) (hT:Z2 P T=Xa Xc) (ha:Zt P σ a = .eref d q (i*P.cellsOf (bT E)+off)) (hd:Zr (σ d) q=Xa (E,xs)) (hng:(σ d).isG=Xc)
  (hrow:xs[i]? = Xa row) (hx:row[off]? = Xa x) (hn:off+1≤P.cellsOf (bT E)) (hdp:Zg P E=Xb) :
  JO P o σ (Zbi x) [(d,Zp (σ d) q Xb E (JZ xs i off 1))] [d]:=by
 intro c hc σ' tm w lim X hid hag hsim next Q hnx
 subst hc
 have hga:Zt c.P σ' a=Zt c.P σ a:=ZJ fun t ht=>hid t (by simp [Zw (o:=o) (x:=a) (by rw [ho];simp [Op.operands]) ht])
 have hsd:σ' d=σ d:=hag d (by simp)
 obtain ⟨b,lim',X',us,h3,k1,k2,k3,k4⟩:=hsim.deepRead (m:=1) (by rw [hsd];exact hd) (by rw [hsd];exact hng) (Yj rfl hsim ha hga) hrow hn hdp
 rw [hsd] at k1
 obtain ⟨u,rfl⟩:=U9.1 k2
 have e1:(row.drop off).take 1 = [x]:=by rw [List.take_one,List.head?_drop,hx];rfl
 rw [e1] at k4
 have hcell:=k3 0 u rfl
 rw [Ug] at hcell
 obtain ⟨p1,p2⟩:=K1 (P:=c.P) (X:=X') (σ:=upd σ' d (Zp (σ d) q Xb E (JZ xs i off 1))) (k:=0) (k4.2.1 (Zbi x) (by simp)) (k4.2.2 0 (Zbi x) u rfl rfl)
 refine Zs (v:=u) (w':=w) ?_ (hnx _ w (ZE k1 p1 (k:=0) p2))
 simp [execOp,ho,h3,JG hT hcell]
def Zll (c:AV):AV:=match c with | .own _ _ _=>.gone | c=>c
theorem ZdP {T':Odr} {P:Program} {o:Oper} {σ:Nat→AV} {T:TypeId} {a:Operand} {d:Nat} {cs:List AV} {us:List (Nat×AV)} (ho:o.op = .load T a) (hT:Z2 P T=Xa Xb) (ha:Zt P σ a = .ptr d 0) (hd:σ d = .box cs) (hn:cs.length=P.cellsOf T) (hwh:Whole cs) (hus:Yw T' σ d us) :
  Kc T' P o σ (.aggo cs) (us++[(d,.box (cs.map Zll))]) [d]:=by
 intro c hc σ' tm w lim X hid hag hT' hsim next Q hn'
 have hg:Zt P σ' a=Zt P σ a:=ZJ fun t ht=>hid t (by simp [Zw (o:=o) (x:=a) (by rw [ho];simp [Op.operands]) ht])
 have hv:=Yj hc hsim ha hg
 have hd':σ' d = .box cs:=by rw [hag d (by simp),hd]
 rw [← hc] at hv
 obtain ⟨b,h1,h2,h3⟩:=KW hsim hd' hv
 obtain ⟨hd1,hd2⟩:=hus.all hT'
 obtain ⟨X1,k1,k2⟩:=hsim.drops us fun u hu=>by
  obtain ⟨m0,m1,k,m3⟩:=hd1 u hu
  obtain ⟨p1,p2,p3⟩:=Yx m3
  exact ⟨m1,p2,JJ hsim (fun e=>by rw [e] at m3;rcases m3 with m3 | ⟨_,m3⟩ <;> cases m3) p3⟩
 have hdm:d∉us.map (·.1):=by
  intro hm
  obtain ⟨u,hu,rfl⟩:=Xm.1 hm
  exact (hd1 u hu).1 rfl
 have hdead:∀ (σ:Nat→AV) (i:Nat),JC σ us i=if i∈us.map (·.1) then .dead else σ i:=fun σ i=>Ku us σ i fun u hu=>(hd1 u hu).2.1
 have hds:JC σ' us d = .box cs:=by rw [hdead,if_neg hdm,hd']
 have hnor:∀ i k,i≠d→Jl (JC σ' us i) d k→False:=fun i k hi hr=>by
  rw [hdead] at hr
  split at hr
  ·rcases hr with hr | ⟨_,hr⟩ <;> cases hr
  ·rename_i hm
   exact hm (hd2 i k hi hr)
 have hXd:X1 d=X d:=k2 d hdm
 have hrel:=k1.rel d
 rw [hds] at hrel
 obtain ⟨b0,arr,ty,g1,g2,g3,g4,g5,g6,g7⟩:=(show ZN c.P w lim (X1 d) cs _ from hrel)
 have hb0:b0=b:=by rw [hXd] at g1;rw [g1] at h1;exact Xp h1
 subst hb0
 have hdn:d < c.nt:=JJ hsim (by rw [hd'];exact fun h=>by cases h) (by rw [hd'];rfl)
 have hal:arr.toList.length=cs.length:=by simpa using g4
 have k3:Sim c (upd (JC σ' us) d (.box (cs.map Zll))) tm w lim (Ke X1 d fun k=>if k=0 then X1 d 0 else Xe):=by
  refine k1.putRow (S:=fun _=>False) _ (ZU.refl w lim _) (fun _ hs=>hs.elim) hdn rfl (fun j _=>rfl) (.inr ⟨⟨_,rfl⟩,if_pos rfl,rfl⟩) (fun i q hi hr=>(hnor i q hi hr).elim) ?_ (fun k b hk=>?_) (fun k k' b hk hk'=>?_) (hns:=fun k e1 xs1 b m1 m2 m3=>?_)
  ·refine ⟨b0,arr,ty,by rw [Zo,if_pos rfl];exact g1,g2,g3,by simp [g4],g5,fun y hy=>?_,fun j y u hy hju=>?_⟩
   ·obtain ⟨z,hz,rfl⟩:=Xm.1 hy
    rcases g6 z hz with h | ⟨x,e,xs,rfl⟩ | rfl
    ·cases z<;>simp [AV.isCell] at h<;>exact .inl rfl
    ·exact .inr (.inr rfl)
    ·exact .inr (.inr rfl)
   ·rw [Zo,if_neg (by omega)]
    rw [Xl] at hy
    cases hz:cs[j]? with
    | none => rw [hz] at hy; cases hy
    | some z =>
     rw [hz] at hy
     simp only [Xv,Xf] at hy
     subst hy
     have hc1:=g7 j z u hz hju
     rcases g6 z (Xj hz) with h | ⟨x,e,xs,rfl⟩ | rfl
     ·cases z<;>simp [AV.isCell] at h<;>exact hc1
     ·exact trivial
     ·exact trivial
  ·by_cases e1:k=0
   ·rw [if_pos e1] at hk
    exact ⟨(k1.ours d 0 b hk).1,(k1.ours d 0 b hk).2,fun a j ha hj=>ha (k1.dist a j d 0 b hj hk).1⟩
   ·rw [if_neg e1] at hk;cases hk
  ·by_cases e1:k=0<;>by_cases e2:k'=0
   ·omega
   ·rw [if_neg e2] at hk';cases hk'
   ·rw [if_neg e1] at hk;cases hk
   ·rw [if_neg e1] at hk;cases hk
  ·by_cases e1:k=0
   ·subst e1;cases m1
   ·rw [if_neg e1] at m3;cases m3
 rw [← Kz] at k3
 have hrun:(execOp (Act.eval ⟨tm,[]⟩) o).run P w = .ok (.value (.agg arr)) w:=by
  have hl:=J3 (P:=P) (w:=w) (b:=b0) (off:=0) (us:=arr.toList) hT (by rw [hal,hn]) (fun j u hj=>by rw [Zl g3,XM];simpa using hj)
  rw [UE] at hl
  simp [execOp,ho,h2,hl]
 refine Zs hrun (hn' _ w ?_)
 cases hdst:o.dst with
 | none => exact ⟨lim, _, k3⟩
 | some d2 =>
  intro hd2' hm
  refine ⟨lim,_,k3.putRow (hns:=fun k e1 xs1 b m1 m2 m3=>by
   have hng:=hsim.ntN
   rw [Zj X1 _ (show ngN+b≠d by omega)]
   by_cases e1':k=0
   ·rw [if_pos e1'] at m3;cases m3
   ·rw [if_neg e1'] at m3
    refine k1.nst d k e1 xs1 b ?_ m2 m3
    rw [hds]
    cases k with
    | zero => omega
    | succ k => exact m1) (fun k => if k = 0 then Xe else X1 d k) (ZU.refl w lim (fun _ => False)) (fun _ hs => hs.elim) hd2' (tm' := tm.setIfInBounds d2 (.agg arr)) (by simp) (fun i hi => ZL tm d2 i _ hi)
   (.inl (ZH hm).1) (fun i q hi hr=>(k3.noRefs (ZH hm).none i q hi hr).elim) ?_ (fun k b hk=>?_) (fun k k' b hk hk'=>?_)⟩
  ·rw [JF tm d2 _ (by rw [hsim.size];exact hd2')]
   refine ⟨arr.toList,by rw [UE],hal,⟨g6,fun u hu=>?_⟩,fun j x u hx hu=>?_⟩
   ·obtain ⟨j,hj⟩:=XU.1 hu
    have hlt:j < cs.length:=by rw [← hal];exact (Xn.1 hj).1
    have hr:=g7 j _ u (Xq hlt) (by simpa using hj)
    rcases g6 _ (Xy hlt) with hx | ⟨x,e,xs,hx⟩ | hx
    ·generalize cs[j]=y at hr hx
     cases y<;>simp [AV.isCell] at hx<;>exact Rep.oneCell hr rfl
    ·rw [hx] at hr
     exact (ZY.cells1 (show ZY c.P w lim x e xs u _ from hr)).2
    ·exact (hwh _ (Xy hlt) hx).elim
   ·rw [Zo,if_neg (by omega)]
    exact g7 j x u hx (by simpa using hu)
  ·by_cases e1:k=0
   ·rw [if_pos e1] at hk;cases hk
   ·rw [if_neg e1] at hk
    refine ⟨(k1.ours d k b hk).1,(k1.ours d k b hk).2,fun i j hi hij=>?_⟩
    by_cases hid:i=d
    ·subst hid
     rw [Zo] at hij
     by_cases ej:j=0
     ·rw [if_pos ej] at hij
      have:=(k1.dist i 0 i k b hij hk).2;omega
     ·rw [if_neg ej] at hij;cases hij
    ·rw [Zj X1 _ hid] at hij
     exact hid (k1.dist i j d k b hij hk).1
  ·by_cases e1:k=0<;>by_cases e2:k'=0
   ·omega
   ·rw [if_pos e1] at hk;cases hk
   ·rw [if_pos e2] at hk';cases hk'
   ·rw [if_neg e1] at hk;rw [if_neg e2] at hk'
    exact (k1.dist d k d k' b hk hk').2
def ZkX (c:AV):AV:=match c with | .nest _ Xb e ys=>.own Xb e ys | c=>c
def Zr2 (c:AV):Bool:=match c with | .nest _ Xc _ _=>Xc | _=>Xb
def Zlv (c:AV):Bool:=match c with | .nest _ Xb _ _=>Xb | _=>Xc
theorem ZmH {z:AV} (h:z.isCell=Xb):(Zhp z).isCell=Xb:=by
 unfold Zhp
 split
 ·rfl
 ·exact h
theorem Zpd {w:World} {lim:Nat→Nat} {z:AV} {v:Value} (h:Rep w lim z v):Rep w lim (Zhp z) v:=by
 unfold Zhp
 split
 ·cases h
  exact .nest
 ·exact h
theorem Zri {z:AV} {s:Nat} {e:TypeId} {ys:List (List AV)} (h:Zhp z = .nest s Xb e ys):False:=by
 unfold Zhp at h
 split at h
 ·cases h
 ·rename_i hn
  exact hn _ _ _ h
theorem ZoI {z:AV} (h:Zlv z=Xb):∃ s e ys,z = .nest s Xb e ys:=by
 unfold Zlv at h
 split at h
 ·exact ⟨_,_,_,rfl⟩
 ·cases h
set_option maxHeartbeats 1000000 in
theorem WE {P:Program} {o:Oper} {σ:Nat→AV} {T E:TypeId} {a:Operand} {d q i:Nat} {xs:List (List AV)} {row:List AV} (ho:o.op = .load T a) (hT:Z2 P T=Xa Xb) (ha:Zt P σ a = .eref d q (i*P.cellsOf (bT E)+0)) (hd:Zr (σ d) q=Xa (E,xs)) (hng:(σ d).isG=Xc)
  (hrow:xs[i]? = Xa row) (hn:P.cellsOf T=P.cellsOf (bT E)) (hdp:Zg P E=Xb) (hwh:∀ z∈row,Zr2 z=Xb) :
  JO P o σ (.aggo (row.map ZkX)) [(d,Zp (σ d) q Xb E (Zq xs i 0 (row.map Zhp)))] [d]:=by
 intro c hc σ' tm w lim X hid hag hsim next Q hnx
 have hga:Zt P σ' a=Zt P σ a:=ZJ fun t ht=>hid t (by simp [Zw (o:=o) (x:=a) (by rw [ho];simp [Op.operands]) ht])
 have hsd:σ' d=σ d:=hag d (by simp)
 have hd':Zr (σ' d) q=Xa (E,xs):=by rw [hsd,hd]
 have hva:=Yj hc hsim ha hga
 rw [← hc] at hva
 have hdp':Zg c.P E=Xb:=by rw [hc];exact hdp
 obtain ⟨b,arr,cap,g1,h3,g3,g4,g6,g7,g8,g9,g10,g11⟩:=Kx hsim hd' hva (.inr hdp')
 have hbm:=ZaO hsim hd' g1 hdp'
 rw [hc] at g8 g9 h3
 obtain ⟨s,hs⟩:∃ s,s=P.cellsOf (bT E):=⟨_,rfl⟩
 rw [← hs] at g8 g9 h3 hn
 rw [Ug] at h3
 have hxl:=Zh xs _ g9
 have hil:=(Xn.1 hrow).1
 have hrl:=g9 row (Xj hrow)
 have hmul:i*s+s≤xs.length*s:=by
  rw [← Uj];exact XF _ hil
 have hcap:xs.length*s≤cap*s:=XF _ g6
 have hlen:(row.map Zhp).length=s:=by rw [Xi,hrl]
 have hcs:∀ z∈row.map Zhp,z.isCell=Xb:=fun z hz=>by
  obtain ⟨y,hy,rfl⟩:=Xm.1 hz
  exact ZmH (g10 row (Xj hrow) y hy)
 have hmem:=Ys (i:=i) (o:=0) g9 g10 (by rw [hlen];omega) hcs
 have hfl:=Jz (i:=i) (o:=0) (e:=row.map Zhp) g9 hil (by rw [hlen];omega)
 have hget:∀ j,(Zq xs i 0 (row.map Zhp)).flatten[j]? = if i*s≤j∧j < i*s+s then (row.map Zhp)[j-i*s]? else xs.flatten[j]?:=fun j=>by
  rw [hfl,Ug,KO _ _ _ (by rw [hlen,hxl];omega),hlen]
 have hrowat:∀ j,j < s→xs.flatten[i*s+j]? = row[j]?:=fun j hj=>JT xs _ g9 i row hrow j hj
 have hnst:=(hsim.nst d q E xs b (Z4 hd') hdp' g1).2
 have hset:=hsim.deepStep (w':=w) (lim':=lim) (E':=E) (xs':=Zq xs i 0 (row.map Zhp)) (Y':=fun j=>if i*s≤j∧j < i*s+s then Xe else X (ngN+b) j) hd' (by rw [hsd];exact hng) g1 (ZU.refl w lim _)
  (Vg (.inr hdp') (by rw [← g1];exact hsim.deepB (Z4 hd')) g3 g3 rfl (by simp [Zq]) g4 (fun x hx=>by rw [hc,← hs];exact (hmem x hx).1) (fun x hx=>(hmem x hx).2) (fun j z u' hz' hu'=>by
   rw [hget] at hz'
   by_cases hj:i*s≤j∧j < i*s+s
   ·rw [if_pos hj,Xl] at hz'
    have hr:=hrowat (j-i*s) (by omega)
    rw [show i*s+(j-i*s)=j by omega] at hr
    cases hz:row[j-i*s]? with
    | none => rw [hz] at hz'; cases hz'
    | some y =>
     rw [hz] at hz'
     simp only [Xv,Xf] at hz'
     subst hz'
     exact Zpd (g11 j y u' (hr.trans hz) hu')
   ·rw [if_neg hj] at hz';exact g11 j z u' hz' hu') (.inr ⟨hdp',rfl,hbm⟩))
  (by simp [Zq]) (.of rfl) (.inl rfl) (.mv (.inr (.inl hdp'))) (fun j b' hb'=>by
   by_cases hj:i*s≤j∧j < i*s+s
   ·rw [if_pos hj] at hb';cases hb'
   ·rw [if_neg hj] at hb';exact .inl ⟨j,hb'⟩) (fun j j' b' q1 q2=>by
   by_cases hj:i*s≤j∧j < i*s+s
   ·rw [if_pos hj] at q1;cases q1
   ·by_cases hj':i*s≤j'∧j' < i*s+s
    ·rw [if_pos hj'] at q2;cases q2
    ·rw [if_neg hj] at q1;rw [if_neg hj'] at q2;exact (hsim.dist _ j _ j' b' q1 q2).2)
  (fun _=>⟨⟨arr,g3⟩,fun j s1 e1 ys1 u' hz' hu'=>by
   rw [hget] at hz'
   by_cases hj:i*s≤j∧j < i*s+s
   ·rw [if_pos hj,Xl] at hz'
    cases hz:row[j-i*s]? with
    | none => rw [hz] at hz'; cases hz'
    | some y =>
     rw [hz] at hz'
     simp only [Xv,Xf] at hz'
     exact (Zri hz').elim
   ·rw [if_neg hj] at hz'
    show _∧_∧Vz c.P w lim Xb e1 ys1 u' (if i*s≤j∧j < i*s+s then Xe else X (ngN+b) j)
    rw [if_neg hj]
    exact hnst j s1 e1 ys1 u' hz' hu'⟩)
 rw [hsd] at hset
 obtain ⟨X1,hX1⟩:∃ X1,X1=Ke X (ngN+b) fun j=>if i*s≤j∧j < i*s+s then Xe else X (ngN+b) j:=⟨_,rfl⟩
 rw [← hX1] at hset
 obtain ⟨us,hus⟩:∃ us:List Value,us=(arr.toList.drop (i*s)).take s:=⟨_,rfl⟩
 have hul:us.length=s:=by rw [hus];simp [g8];omega
 have huat:∀ (j:Nat) (u:Value),us[j]? = Xa u→j < s∧arr[i*s+j]? = Xa u:=fun j u hj=>by
  rw [hus,Xz] at hj
  split at hj
  ·rename_i hlt
   rw [XI] at hj
   exact ⟨hlt,by simpa using hj⟩
  ·cases hj
 have hrun:(execOp (Act.eval ⟨tm,[]⟩) o).run P w = .ok (.value (.agg us.toArray)) w:=by
  have hl:=J3 (P:=P) (w:=w) (b:=b) (off:=i*s) (us:=us) hT (by rw [hul,hn]) (fun j u hj=>by rw [Zl g3];exact (huat j u hj).2)
  simp [execOp,ho,h3,hl]
 refine Zs hrun (hnx _ w ?_)
 obtain ⟨ρr,hρ⟩:∃ r:Nat→Option Nat,r=fun k=>if k=0 then Xe else if (match row[k-1]? with | some z=>Zlv z | none=>Xc)=Xb then X (ngN+b) (i*s+(k-1)) else Xe:=⟨_,rfl⟩
 have hr0:ρr 0=Xe:=by rw [hρ];rfl
 have hrs:∀ k b',ρr k=Xa b'→∃ j,k=j+1∧j < s∧X (ngN+b) (i*s+j)=Xa b':=fun k b' hk=>by
  rw [hρ] at hk
  dsimp only at hk
  cases k with
  | zero => cases hk
  | succ j =>
   rw [if_neg (by omega),X5] at hk
   cases hz':row[j]? with
   | none => rw [hz'] at hk; cases hk
   | some z =>
    rw [hz'] at hk
    dsimp only at hk
    split at hk
    ·exact ⟨j,rfl,by rw [← hrl];exact (Xn.1 hz').1,hk⟩
    ·cases hk
 cases hdst:o.dst with
 | none => exact ⟨lim, _, hset⟩
 | some d2 =>
  intro hd2' hm
  have hcell:∀ (j:Nat) (x:AV) (u:Value),(row.map ZkX)[j]? = Xa x→us[j]? = Xa u→J9 c.P w lim (ρr (j+1)) x u:=fun j x u hx hu=>by
   obtain ⟨hjs,hua⟩:=huat j u hu
   rw [Xl] at hx
   cases hz:row[j]? with
   | none => rw [hz] at hx; cases hx
   | some z =>
    rw [hz] at hx
    simp only [Xv,Xf] at hx
    subst hx
    have hflat:=(hrowat j hjs).trans hz
    cases hnz:Zlv z with
    | true =>
     obtain ⟨s1,e1,ys1,rfl⟩:=ZoI hnz
     obtain ⟨_,n2,n3⟩:=hnst (i*s+j) s1 e1 ys1 u hflat (by rw [Zl g3];exact hua)
     have hrj:ρr (j+1)=X (ngN+b) (i*s+j):=by
      rw [hρ]
      dsimp only
      rw [if_neg (by omega),X5,hz]
      rfl
     rw [hrj]
     exact n3.own
    | false =>
     have hrep:=g11 (i*s+j) z u hflat hua
     have hw0:=hwh z (Xj hz)
     have hic:=g10 row (Xj hrow) z (Xj hz)
     have:ZkX z=z:=by
      unfold ZkX
      split
      ·cases hnz
      ·rfl
     rw [this]
     cases z<;>first | exact hrep | (simp [AV.isCell] at hic;done)
  refine ⟨lim,_,hset.putRow ρr (ZU.refl w lim (fun _=>False)) (fun _ hs=>hs.elim) hd2' (tm':=tm.setIfInBounds d2 (.agg us.toArray)) (by simp) (fun i hi=>ZL tm d2 i _ hi)
   (.inl (ZH hm).1) (fun i q hi hr=>(hset.noRefs (ZH hm).none i q hi hr).elim) ?_ (fun k b' hk=>?_) (fun k k' b' hk hk'=>?_) (hns:=fun k e1 xs1 b1 m1 m2 m3=>?_)⟩
  ·rw [JF tm d2 _ (by rw [hsim.size];exact hd2')]
   refine ⟨us,rfl,by rw [hul,Xi,hrl],⟨fun x hx=>?_,fun u hu=>?_⟩,fun j x u hx hu=>?_⟩
   ·obtain ⟨z,hz,rfl⟩:=Xm.1 hx
    have hic:=g10 row (Xj hrow) z hz
    unfold ZkX
    split
    ·exact .inr (.inl ⟨_,_,_,rfl⟩)
    ·exact .inl hic
   ·obtain ⟨j,hj⟩:=XU.1 hu
    obtain ⟨hjs,hua⟩:=huat j u hj
    obtain ⟨z,hz⟩:∃ z,row[j]? = Xa z:=⟨row[j]'(by omega),Xq (by omega)⟩
    exact (g11 (i*s+j) z u ((hrowat j hjs).trans hz) hua).oneCell (g10 row (Xj hrow) z (Xj hz))
   ·rw [Zo]
    exact hcell j x u hx hu
  ·obtain ⟨j,rfl,hjs,hb'⟩:=hrs k b' hk
   refine ⟨(hsim.ours _ _ b' hb').1,(hsim.ours _ _ b' hb').2,fun i' j' hi' hij=>?_⟩
   rw [hX1] at hij
   by_cases e:i'=ngN+b
   ·subst e
    rw [Zo] at hij
    by_cases hj:i*s≤j'∧j' < i*s+s
    ·rw [if_pos hj] at hij;cases hij
    ·rw [if_neg hj] at hij
     have:=(hsim.dist _ j' _ _ b' hij hb').2
     omega
   ·rw [Zj X _ e] at hij
    exact e (hsim.dist i' j' _ _ b' hij hb').1
  ·obtain ⟨j,rfl,hjs,hb1⟩:=hrs k b' hk
   obtain ⟨j',rfl,hjs',hb2⟩:=hrs k' b' hk'
   have:=(hsim.dist _ _ _ _ b' hb1 hb2).2
   omega
  ·exfalso
   cases k with
   | zero => cases m1
   | succ k =>
    have hk:(row.map ZkX)[k]? = Xa (.own Xb e1 xs1):=by
     simp only [Z5] at m1
     split at m1
     ·rename_i e2 xs2 he
      simp only [Xf,Xo] at m1
      rw [he,m1.1,m1.2]
     ·cases m1
    rw [Xl] at hk
    cases hz:row[k]? with
    | none => rw [hz] at hk; cases hk
    | some z =>
     rw [hz] at hk
     simp only [Xv,Xf] at hk
     have hks:k < s:=by rw [← hrl];exact (Xn.1 hz).1
     have hic:=g10 row (Xj hrow) z (Xj hz)
     have hzn:∃ s1,z = .nest s1 Xb e1 xs1:=by
      unfold ZkX at hk
      split at hk
      ·cases hk
       exact ⟨_,rfl⟩
      ·rw [hk] at hic
       simp [AV.isCell] at hic
     obtain ⟨s1,rfl⟩:=hzn
     obtain ⟨u,hu⟩:∃ u,arr[i*s+k]? = Xa u:=⟨arr[i*s+k]'(by omega),X8 (by omega)⟩
     have:=(hnst (i*s+k) s1 e1 xs1 u ((hrowat k hks).trans hz) (by rw [Zl g3];exact hu)).2.1
     rw [ZT this] at m2
     cases m2
theorem Wx {P:Program} {o:Oper} {σ:Nat→AV} {T E:TypeId} {a:Operand} {d q i:Nat} {xs:List (List AV)} {row:List AV} (ho:o.op = .load T a) (hT:Z2 P T=Xa Xb) (ha:Zt P σ a = .eref d q (i*P.cellsOf (bT E)+0)) (hd:Zr (σ d) q=Xa (E,xs)) (hng:(σ d).isG=Xc)
  (hrow:xs[i]? = Xa row) (hn:P.cellsOf T=P.cellsOf (bT E)) (hdp:Zg P E=Xb) (hwh:∀ z∈row.take (P.cellsOf T),Zr2 z=Xb) :
  JO P o σ (.aggo ((row.take (P.cellsOf T)).map ZkX)) [(d,Zp (σ d) q Xb E (Zq xs i 0 (row.map Zhp)))] [d]:=by
 intro c hc σ' tm w lim X hid hag hsim next Q hnx
 have hga:Zt P σ' a=Zt P σ a:=ZJ fun t ht=>hid t (by simp [Zw (o:=o) (x:=a) (by rw [ho];simp [Op.operands]) ht])
 have hd':Zr (σ' d) q=Xa (E,xs):=by rw [hag d (by simp),hd]
 have hva:=Yj hc hsim ha hga
 rw [← hc] at hva
 obtain ⟨_,_,_,_,_,_,_,_,_,_,g9,_⟩:=Kx hsim hd' hva (.inr (by rw [hc];exact hdp))
 have hrl:=g9 row (Xj hrow)
 rw [hc,← hn] at hrl
 have hrt:row.take (P.cellsOf T)=row:=UA (by omega)
 rw [hrt] at hnx hwh
 exact WE ho hT ha hd hng hrow hn hdp hwh c hc σ' tm w lim X hid hag hsim next Q hnx
theorem Zn0 {xs:List (List AV)} {i:Nat} {row:List AV} (hr:xs[i]? = Xa row):Zqm xs i=Zq xs i 0 (row.map Zhp):=by
 unfold Zqm Zq
 refine UD fun j=>?_
 rw [U2,U2]
 by_cases hj:i=j
 ·subst hj
  rw [hr]
  simp [setCells]
 ·simp only [if_neg hj]
theorem ZbI {P:Program} {o:Oper} {σ:Nat→AV} {T:TypeId} {a:Operand} {d:Nat} {cs:List AV} (ho:o.op = .load T a) (hT:Z2 P T=Xa Xb) (ha:Zt P σ a = .ptr d 0) (hd:σ d = .box cs) (hn:cs.length=P.cellsOf T) (hwh:Whole cs) :
  JO P o σ (.aggo (cs.map Zll)) [] [d]:=by
 intro c hc σ' tm w lim X hid hag hsim next Q hnx
 have hg:Zt P σ' a=Zt P σ a:=ZJ fun t ht=>hid t (by simp [Zw (o:=o) (x:=a) (by rw [ho];simp [Op.operands]) ht])
 have hv:=Yj hc hsim ha hg
 have hd':σ' d = .box cs:=by rw [hag d (by simp),hd]
 rw [← hc] at hv
 obtain ⟨b,h1,h2,h3⟩:=KW hsim hd' hv
 obtain ⟨b0,arr,ty,g1,g2,g3,g4,g5,g6,g7⟩:=h3
 have hb0:b0=b:=by rw [g1] at h1;exact Xp h1
 subst hb0
 have hal:arr.toList.length=cs.length:=by simpa using g4
 have hrun:(execOp (Act.eval ⟨tm,[]⟩) o).run P w = .ok (.value (.agg arr)) w:=by
  have hl:=J3 (P:=P) (w:=w) (b:=b0) (off:=0) (us:=arr.toList) hT (by rw [hal,hn]) (fun j u hj=>by rw [Zl g3,XM];simpa using hj)
  rw [UE] at hl
  simp [execOp,ho,h2,hl]
 refine Zs hrun (hnx _ w ?_)
 cases hdst:o.dst with
 | none => exact ⟨lim, X, hsim⟩
 | some d2 =>
  intro hd2' hm
  refine ⟨lim,_,hsim.putRow (fun _=>Xe) (ZU.refl w lim (fun _=>False)) (fun _ hs=>hs.elim) hd2' (tm':=tm.setIfInBounds d2 (.agg arr)) (by simp) (fun i hi=>ZL tm d2 i _ hi)
   (.inl (ZH hm).1) (fun i q hi hr=>(hsim.noRefs (ZH hm).none i q hi hr).elim) ?_ (fun k b' hk=>by cases hk) (fun k k' b' hk _=>by cases hk) (hns:=fun k e1 xs1 b1 m1 m2 m3=>by cases m3)⟩
  rw [JF tm d2 _ (by rw [hsim.size];exact hd2')]
  refine ⟨arr.toList,by rw [UE],by rw [hal,Xi],⟨fun x hx=>?_,fun u hu=>?_⟩,fun j x u hx hu=>?_⟩
  ·obtain ⟨z,hz,rfl⟩:=Xm.1 hx
   rcases g6 z hz with h | ⟨x,e,xs,rfl⟩ | rfl
   ·cases z<;>simp [AV.isCell] at h<;>exact .inl rfl
   ·exact .inr (.inr rfl)
   ·exact .inr (.inr rfl)
  ·obtain ⟨j,hj⟩:=XU.1 hu
   have hlt:j < cs.length:=by rw [← hal];exact (Xn.1 hj).1
   have hr:=g7 j _ u (Xq hlt) (by simpa using hj)
   rcases g6 _ (Xy hlt) with hx | ⟨x,e,xs,hx⟩ | hx
   ·generalize cs[j]=y at hr hx
    cases y<;>simp [AV.isCell] at hx<;>exact Rep.oneCell hr rfl
   ·rw [hx] at hr
    exact (ZY.cells1 (show ZY c.P w lim x e xs u _ from hr)).2
   ·exact (hwh _ (Xy hlt) hx).elim
  ·rw [Xl] at hx
   cases hz:cs[j]? with
   | none => rw [hz] at hx; cases hx
   | some z =>
    rw [hz] at hx
    simp only [Xv,Xf] at hx
    subst hx
    have hc1:=g7 j z u hz (by simpa using hu)
    rcases g6 z (Xj hz) with h | ⟨x,e,xs,rfl⟩ | rfl
    ·cases z<;>simp [AV.isCell] at h<;>exact hc1
    ·exact trivial
    ·exact trivial
def Yy (z:Int):List AV:=[.val (.int .i64 z)]
def W4 (P:Program) (srt:List FuncId):Prop:=
 ∀ f∈srt,Callable P f∧(∀ (p:Option Addr) (cap:Nat) (w:World),Calls P f #[.slice p 0 cap] w fun e w'=>e = .returned (.tuple #[])∧w'=w)∧
  ∀ (w:World) (lim:Nat→Nat) (b cap:Nat) (arr:Array Value) (e:TypeId) (zs:List Int),zs≠[]→zs.length≤1048576→zs.length≤cap→cap≤maxLen→arr.size=cap→w.heap[b]? = Xa (.cells arr e (0,0))→lim b=0→arr.toList.take zs.length=zs.map (Value.int .i64)→
   Calls P f #[.slice (Xa ⟨b,0,Xe⟩) zs.length cap] w fun e' w'=>e' = .returned (.tuple #[])∧∃ arr',w'.heap[b]? = Xa (.cells arr' e (0,0))∧arr'.size=arr.size∧
    arr'.toList.take zs.length=(zs.mergeSort fun x y=>decide (x≤y)).map (Value.int .i64)∧ZU w lim w' lim (fun b'=>b'=b)
theorem Zlr {l:List (List AV)} (h:l.all ZgY=Xb):∃ zs:List Int,l=zs.map Yy:=by
 induction l with
 | nil => exact ⟨[], rfl⟩
 | cons r l ih =>
  rw [List.all_cons,Xx] at h
  obtain ⟨zs,rfl⟩:=ih h.2
  have h1:=h.1
  unfold ZgY at h1
  split at h1
  ·rename_i z
   exact ⟨z::zs,rfl⟩
  ·cases h1
theorem Zey (zs:List Int):Ze9 (zs.map Yy)=(zs.mergeSort fun x y=>decide (x≤y)).map Yy:=by
 have:(zs.map Yy).filterMap Z1=zs:=by
  induction zs with
  | nil => rfl
  | cons z zs ih => rw [Xk, List.filterMap_cons_some (f := Z1) (a := Yy z) (b := z) rfl, ih]
 unfold Ze9
 rw [this]
 rfl
theorem ZgC (zs:List Int):(zs.map Yy).flatten=zs.map fun z=>AV.val (.int .i64 z):=Zdg zs
theorem Zhj {P:Program} {w:World} {lim:Nat→Nat} {x:Bool} {e:TypeId} {xs:List (List AV)} {v:Value} {ob:Option Nat} (h:ZY P w lim x e xs v ob) (hne:xs≠[]) (hnm:Zk P e=Xc) :
  ∃ b arr cap,ob=Xa b∧v = .slice (Xa ⟨b,0,Xe⟩) xs.length cap∧w.heap[b]? = Xa (.cells arr e (0,0))∧xs.length≤cap∧cap≤maxLen∧arr.size=cap*P.cellsOf e∧
   (∀ x∈xs,x.length=P.cellsOf e)∧(∀ x∈xs,∀ z∈x,z.isCell=Xb)∧(∀ (j:Nat) (z:AV) (u:Value),xs.flatten[j]? = Xa z→arr.toList[j]? = Xa u→Rep w lim z u)∧(∀ b',ob=Xa b'→x=Xb→lim b'=0):=by
 rcases h.noMap hnm with ⟨us,h1,h2,h3,h4,h5,h6⟩ | ⟨h,_⟩
 ·rcases h1.2 with ⟨hv,hn⟩ | ⟨g,cap,cur,hv,hbg,hg,hnc,hcm,hcs,htake⟩
  ·exact (hne (Ub hn)).elim
  ·refine ⟨g,cur,cap,by rw [← h2,hv];rfl,hv,hg,hnc,hcm,hcs,h4,h5,fun j z u hz hu=>h6 j z u hz ?_,fun b' hb' hx=>by rw [h3 b' hb',if_pos hx]⟩
   have hj:=(Xn.1 hz).1
   rw [Zh xs _ h4] at hj
   rw [← htake,Xz,if_pos hj]
   exact hu
 ·exact (hne h).elim
theorem Zpi {P:Program} {o:Oper} {σ:Nat→AV} {srt:List FuncId} {f:FuncId} {cl:Call} {x:Operand} {d:Nat} {e:TypeId} {zs:List Int} (hsrt:W4 P srt) (hf:f∈srt) (ho:o.op = .call cl) (hcl:cl.callee = .value (.func f)) (hargs:cl.args.toList = [x])
  (hx:Zt P σ x = .mref d 0) (hd:σ d = .own Xb e (zs.map Yy)) (h1:P.cellsOf e=1) (hnm:Zk P e=Xc) (hlen:zs.length≤1048576) :
  JO P o σ .dead [(d,.own Xb e (Ze9 (zs.map Yy)))] [d]:=by
 intro c hc σ' tm w lim X hid hag hsim next Q hn
 have hargs':cl.args = #[x]:=by apply XR.1;rw [hargs]
 have hgx:Zt P σ' x=Zt P σ x:=ZJ fun t ht=>hid t (Zw (x:=x) (by rw [ho];simp [Op.operands,Call.operands,hcl,hargs']) ht)
 have hv:=Yj hc hsim hx hgx
 have hsd:σ' d=σ d:=hag d (by simp)
 have hd':σ' d = .own Xb e (zs.map Yy):=by rw [hsd,hd]
 rw [← hc] at hv
 have hnm':Zk c.P e=Xc:=by rw [hc];exact hnm
 obtain ⟨e',xs',m1,m2⟩:=hv
 rw [hd'] at m1
 simp only [Zr,Xf,Xo] at m1
 obtain ⟨rfl,rfl⟩:=m1
 obtain ⟨k1,k2,k3⟩:=hsrt f hf
 have hown:=hsim.rel d
 rw [hd'] at hown
 have hown:ZY c.P w lim Xb e (zs.map Yy) (tm.getD d undef) (X d 0):=hown
 have hdn:d < c.nt:=JJ hsim (by rw [hd'];exact fun h=>by cases h) (by rw [hd'];rfl)
 have hnil:zs = []→(tm.getD d undef=tm.getD d undef)→Sim c (upd σ' d (.own Xb e (Ze9 (zs.map Yy)))) tm w lim X:=fun hz _=>by
  have:upd σ' d (.own Xb e (Ze9 (zs.map Yy)))=σ':=by
   funext i
   by_cases hi:i=d
   ·subst hi;rw [ZC,hd',hz];simp [Ze9]
   ·rw [Zf _ _ hi]
  rw [this]
  exact hsim
 unfold Oper.wp
 by_cases hz:zs = []
 ·have hvx:∃ p cap,Act.eval ⟨tm,[]⟩ x = .slice p 0 cap:=by
   rcases m2.noMap hnm' with ⟨_,_,h | ⟨a,h⟩⟩ | ⟨b,arr,cap,_,_,_,h⟩
   ·exact ⟨_,_,h⟩
   ·exact ⟨_,_,h⟩
   ·rw [hz] at h;exact ⟨_,_,h⟩
  obtain ⟨p,cap,hvx⟩:=hvx
  rw [Zb0 ho hcl hargs k1 hvx,Oper.upon_enter]
  refine (k2 p cap w).mono ?_
  rintro e1 w' ⟨rfl,rfl⟩
  exact hn _ _ (ZE (hnil hz rfl) rfl (k:=0) trivial)
 ·have hxs:zs.map Yy≠[]:=by simpa using hz
  obtain ⟨b,arr,cap,hXd,hvd,hg,hnc,hcm,hcs,hxl,hxc,hxr,hlim⟩:=Zhj hown hxs hnm'
  have hlb:lim b=0:=hlim b hXd rfl
  have hvx:Act.eval ⟨tm,[]⟩ x = .slice (Xa ⟨b,0,Xe⟩) zs.length cap:=by
   rcases m2.noMap hnm' with ⟨h,_⟩ | ⟨b',arr',cap',q1,q2,q3,q4⟩
   ·rw [hXd] at h;cases h
   ·rw [hXd] at q1
    cases q1
    rw [hg] at q2
    cases q2
    rw [hc,h1] at q3 hcs
    rw [q4,Xi,show cap'=cap by omega]
  rw [Xi] at hnc
  rw [hc,h1,UM] at hcs
  have htake:arr.toList.take zs.length=zs.map (Value.int .i64):=by
   apply UD
   intro j
   rw [Xz,Xl]
   split
   ·rename_i hj
    have hja:j < arr.size:=by omega
    have hr:=hxr j (.val (.int .i64 zs[j])) arr[j] (by rw [ZgC,Xl,Xq hj];rfl) (by simp [hja])
    rw [Xq hj,Xv,← YV hr]
    simp [hja]
   ·rename_i hj
    rw [Ux (by omega)]
    rfl
  rw [Zb0 ho hcl hargs k1 hvx,Oper.upon_enter]
  refine (k3 w lim b cap arr e zs hz hlen hnc hcm hcs hg hlb htake).mono ?_
  rintro e1 w' ⟨rfl,arr',n1,n2,n3,n4⟩
  obtain ⟨ss,hss⟩:∃ ss,ss=zs.mergeSort fun x y=>decide (x≤y):=⟨_,rfl⟩
  have hsl:ss.length=zs.length:=by rw [hss];exact List.length_mergeSort zs
  rw [← hss] at n3
  have hnew:∀ v,ZY c.P w lim Xb e (zs.map Yy) v (Xa b)→ZY c.P w' lim Xb e (ss.map Yy) v (Xa b):=fun v hv=>by
   obtain ⟨b2,arr2,cap2,p1,p2,p3,p4,p5,p6,_,_,_,_⟩:=Zhj hv hxs hnm'
   cases p1
   rw [hg] at p3
   cases p3
   rw [hc,h1,UM] at p6
   rw [p2,show (zs.map Yy).length=(ss.map Yy).length by rw [Xi,Xi,hsl]]
   refine Vu n1 hlb (by rw [Xi,hsl];omega) p5 (by rw [hc,h1,UM,n2,p6]) (fun r hr=>?_) (fun r hr y hy=>?_) fun j y u hy hu=>?_
   ·obtain ⟨z,_,rfl⟩:=Xm.1 hr
    rw [hc,h1];rfl
   ·obtain ⟨z,_,rfl⟩:=Xm.1 hr
    rw [XH.1 hy];rfl
   ·rw [ZgC,Xl] at hy
    cases hzj:ss[j]? with
    | none => rw [hzj] at hy; cases hy
    | some z =>
     rw [hzj] at hy
     simp only [Xv,Xf] at hy
     subst hy
     have hj:j < zs.length:=by rw [← hsl];exact (Xn.1 hzj).1
     have h3:=congrArg (·[j]?) n3
     simp only [Xz,if_pos hj,Xl,hzj,Xv] at h3
     have:u = .int .i64 z:=by
      have hu':arr'.toList[j]? = Xa u:=by simpa using hu
      rw [hu'] at h3
      exact Xp h3
     rw [this]
     exact .val rfl
  have hdf:d < ngN:=XO hdn hsim.ntN
  have hset:=hsim.deepStep (w':=w') (lim':=lim) (k:=0) (E':=e) (xs':=ss.map Yy) (Y':=X (ngN+b)) (by rw [hd'];rfl) (by rw [hd'];rfl) hXd (n4.sub fun _ h=>.inl h) hnew (by simp [hsl])
   ⟨fun arr0 t0 h0=>by
    rw [hg] at h0
    cases h0
    exact ⟨arr',n1,n2⟩,fun es cl hm0=>by rw [hg] at hm0;cases hm0⟩ (.inl rfl) (.mv (.inl hnm')) (fun j b' hb'=>.inl ⟨j,hb'⟩) (fun j j' b' q1 q2=>(hsim.dist _ j _ j' b' q1 q2).2)
   (fun hdp=>by rw [ZT hnm'] at hdp;cases hdp)
  have he:Zp (σ' d) 0 Xb e (ss.map Yy) = .own Xb e (Ze9 (zs.map Yy)):=by rw [hd',Zey,hss];rfl
  rw [he] at hset
  exact hn _ _ (ZE hset rfl (k:=0) trivial)
end Go.AM
