import Derived.Test.YtpjnmgjphfnmmaaM1
import Derived.Laws.MakeOwn
import Derived.Laws.CopyRow
import Derived.Below
open Option renaming some→Xa,none→Xc,map_some→Xw,map_eq_some_iff→X6
open Bool renaming true→Xb,false→Xe,and_eq_true→Xs
open Option.some renaming injEq→Xf,inj→XT
open List renaming replicate→Xg,map_cons→Xh,mem_map→Xj,getElem?_eq_some_iff→Xk,getElem?_map→Xl,mem_of_getElem?→Xm,append_assoc→Xo,getElem?_eq_getElem→Xp,mem_cons→Xq,length_map→Xr,length_append→Xu,mem_append→Xv,getElem?_append_left→Xx,getElem?_append_right→Xz,length_cons→XA,getElem?_cons_zero→XB,getElem?_take→XC,all_eq_true→XD,map_nil→XF,map_append→XL,nil_append→XM,append_nil→XN,mem_iff_getElem?→XO,getElem?_drop→XP,getElem?_cons_succ→XQ,mem_of_mem_take→XR,length_take→XU,length_nil→XW,mem_of_mem_drop→XY,eq_nil_of_length_eq_zero→X7,flatten_cons→X9,nodup_cons→Wa,mem_replicate→Wb,getElem?_set_self→Wi,getElem?_eq_none→Wl,getElem?_set_ne→Wn,ext_getElem?→Wo,map_toArray→Ws,range→Ua,getElem_mem→Uc,any_eq_true→Ud,length_drop→Ui,mem_cons_of_mem→Ul,take_of_length_le→Uo,map_take→Up,mem_or_eq_of_mem_set→Ur,filterMap_cons→Us,map_drop→Ut,size_toArray→UB,flatten_append→UJ,mem_flatten→UK,length_replicate→UL,length_set→US,getD_eq_getElem?_getD→UT,mem_filterMap→U2,take_left→U6,mem_cons_self→U8,drop_of_length_le→Tl,mem_iff_getElem→Ty,set_eq_take_append_cons_drop→TG
open Prod.mk renaming injEq→Xt
open Nat renaming le_refl→Xy,lt_or_ge→XG,zero_add→XH,le_trans→XI,lt_of_lt_of_le→XS,le_add_right→XX,mul_le_mul_right→XZ,zero_le→X5,add_mul→Wh,mul_one→Wj,add_assoc→Wu,add_zero→Uh,lt_succ_self→Uj,succ_mul→Uk,add_sub_cancel_left→UI,mul_le_mul_left→U5,eq_of_mul_eq_mul_right→Tx
open Array renaming toList_inj→XK,getElem?_eq_getElem→XV,getElem?_eq_some_iff→Wk,toArray_toList→UA,length_toList→UD,mem_toList_iff→Tk,toList_append→Tw
set_option linter.unusedVariables false
set_option linter.unusedSimpArgs false
set_option linter.defProp false
namespace Go.AM
theorem ZgJ (cs:List AV) (off:Nat) (x:AV) (h:off < cs.length):cs.take off++[x]++cs.drop (off+1)=cs.set off x:=by
 rw [TG,if_pos h];simp
theorem Zde (σ:Nat→AV) (us:List (Nat×AV)) (d:Nat) (x:AV):JG σ (us++[(d,x)])=upd (JG σ us) d x:=by
 induction us generalizing σ with
 | nil => rfl
 | cons u us ih => obtain ⟨e, y⟩ := u; simp only [List.cons_append, JG]; exact ih _
theorem Znn:∀ (us:List (Nat×AV)) (σ:Nat→AV) (i:Nat),JG σ us i=σ i∨∃ u∈us,JG σ us i=u.2
 | [], _, _ => .inl rfl
 | (d, x) :: us, σ, i => by
  simp only [JG];rcases Znn us (upd σ d x) i with h | ⟨v,hv,h⟩
  ·by_cases hi:i=d
   ·subst hi;exact .inr ⟨(i,x),by simp,by rw [h,ZI]⟩
   ·exact .inl (by rw [h,Ze _ _ hi])
  ·exact .inr ⟨v,by simp [hv],h⟩
theorem Zor (us:List (Nat×AV)) (σ:Nat→AV) (d:Nat) (h:d∉us.map (·.1)):JG σ us d=σ d:=by
 induction us generalizing σ with
 | nil => rfl
 | cons u us ih =>
  obtain ⟨e,y⟩:=u;simp only [Xh,Xq,not_or] at h;simp only [JG];rw [ih _ h.2,Ze _ _ h.1]
theorem ZnB {σ:Nat→AV} {t d:Nat} {us:List (Nat×AV)} {cs:List AV} (hd:σ d = .box cs) (h:us = []∨VM σ t us):d∉us.map (·.1):=by
 rcases h with rfl | ⟨h,_⟩
 ·simp
 ·intro hm;obtain ⟨u,hu,rfl⟩:=Xj.1 hm;obtain ⟨_,_,k,hk⟩:=h u hu;exact (Vi hk).1 cs hd
theorem ZeJ {T':Odr} {P:Program} {o:Oper} {σ:Nat→AV} {T:TypeId} {a:Operand} {t d off:Nat} {cs:List AV} {x:Bool} {e:TypeId} {xs:List (List AV)} {us:List (Nat×AV)} (ho:o.op = .store T a (.tmp t)) (ha:Zo P σ a = .ptr d off) (hd:σ d = .box cs)
  (ht:σ t = .own x e xs) (hn:P.cellsOf T=1) (hfit:off < cs.length) (hnr:Zdg ((cs.drop off).take 1)∨Yr T' σ d []) (hus:(x=Xe∧us = [])∨Yr T' σ t us) :
  Ku T' P o σ .dead (((t,ZaW P x e xs)::us)++[(d,.box (cs.set off (.own x e xs)))]) [d]:=by
 intro c hc σ' tm w lim X hid hag hT hsim next Q hnx;have hga:Zo P σ' a=Zo P σ a:=ZJ fun t ht=>hid t (by simp [Zu (o:=o) (x:=a) (by rw [ho];simp [Op.operands]) ht]);have hd':σ' d = .box cs:=by rw [hag d (by simp),hd]
 have ht':σ' t = .own x e xs:=by rw [hag t (by simp),ht]
 have hdt:d≠t:=fun h=>by rw [h,ht'] at hd';cases hd'
 have hus':(x=Xe∧us = [])∨VM σ' t us:=hus.imp id fun h=>h.all hT;have hva:=Yf hc hsim ha hga;rw [← hc] at hva;obtain ⟨b,h1,h2,h3⟩:=Wz hsim hd' hva;obtain ⟨i,hi⟩:=Zx (P:=P) (T:=T) (by omega);have hrd:=hsim.rel d;rw [hd'] at hrd;obtain ⟨b9,_,_,m1,m2,_⟩:=(show Z0 c.P w lim (X d) cs _ from hrd);obtain ⟨X1,k1,k2,k3,k4⟩:=hsim.freeAll (us:=us) ht' hus'
 have hd1:JG σ' ((t,ZaW c.P x e xs)::us) d = .box cs:=by
  rw [Zor _ _ _ ?_,hd'];simp only [Xh,Xq,not_or];exact ⟨hdt,ZnB hd' (hus'.imp (fun h=>h.2) id)⟩
 have hr1:=k1.rel d;rw [hd1] at hr1;obtain ⟨b0,arr,ty,g1,g2,g3,g4,g5,g6,g7⟩:=(show Z0 c.P w lim (X1 d) cs _ from hr1)
 have hb0:b0=b:=by
  rw [h1] at m1;rw [m2] at g2;simp only [Value.pointer.injEq,Xf,Addr.mk.injEq,and_true] at g2;have:=XT m1;omega
 subst hb0
 have hset:=k1.setCells (off:=off) (vc:=[.own x e xs]) (us:=[tm.getD t undef]) (fun i=>if i=0 then X t 0 else Xc) hd1 g1 (by simp;omega) rfl
  (fun z hz=>by simp at hz;subst hz;exact .inr (.inl ⟨x,e,xs,rfl⟩)) (fun j z u hz hu=>by
   cases j with
   | zero =>
    simp only [XB,Xf] at hz hu;subst hz;subst hu;show Jv c.P w lim x e xs _ (if 0=0 then X t 0 else Xc);rw [if_pos rfl];exact k2
   | succ j => simp at hz) g3 (fun k h1 h2 i hi hr => by
   rcases hnr with hnr | hdr
   ·exact Zec k1 hd1 hnr h1 (by simpa using h2) hr
   ·rcases Znn ((t,ZaW c.P x e xs)::us) σ' i with h | ⟨u,hu,h⟩
    ·rw [h] at hr;have:=(hdr.all hT).2 i (k+1) hi hr;simp at this
    ·rw [h] at hr;rcases Xq.1 hu with rfl | hu
     ·cases x<;>rcases hr with hr | ⟨_,hr⟩ <;> cases hr
     ·rcases hus' with ⟨_,rfl⟩ | hda
      ·simp at hu
      ·rw [(hda.1 u hu).2.1] at hr
       rcases hr with hr | ⟨_,hr⟩ <;> cases hr) (fun j b' hb'=>by
   by_cases hj:j=0
   ·subst hj;rw [if_pos rfl] at hb'
    exact ⟨by simp,(k3 b' hb').1,(hsim.ours t 0 b' hb').1,(k3 b' hb').2,fun i' hi'=>by
     by_cases hz:i'=0
     ·exact hz.symm
     ·rw [if_neg hz] at hi';cases hi'⟩
   ·rw [if_neg hj] at hb';cases hb') (hnw:=fun j e1 xs1 b' m1 m2 m3=>by
   by_cases hj:j=0
   ·subst hj;rw [if_pos rfl] at m3;simp only [XB,Xf,AV.own.injEq] at m1;obtain ⟨rfl,rfl,rfl⟩:=m1;rw [k4 _ (XI hsim.ntN (XX _ _))];exact hsim.nst t 0 _ _ b' (by rw [ht'];rfl) m2 m3
   ·rw [if_neg hj] at m3;cases m3)
 refine Y2 (w':=w.setRow b0 (arr.toList.take off++[tm.getD t undef]++arr.toList.drop (off+1)).toArray) ?_ (hnx undef _ ?_)
 ·have hcell:(tm.getD t undef).cells = [tm.getD t undef].toArray∧(tm.getD t undef).oneCell'=Xb:=Jv.cells1 k2
  have hst:=YW (P:=P) (T:=T) (w:=w) (b:=b0) (off:=off) (v:=tm.getD t undef) hi hcell.1 (by simp [hn]) g3 (by simp [g4];omega) (fun u hu=>by
   simp at hu;subst hu;simpa using hcell.2)
  have hev:Act.eval ⟨tm,[]⟩ (.tmp t)=tm.getD t undef:=rfl;simp only [execOp,ho,h2,hev,Sem.run_bind,hst,Result.andThen_ok,Sem.run_pure];rfl
 ·have hl:cs.take off++[.own x e xs]++cs.drop (off + [AV.own x e xs].length)=cs.set off (.own x e xs):=ZgJ cs off _ hfit;rw [hl,hc] at hset;rw [Zde];exact Zw hset rfl (k:=0) trivial
theorem Zbn {P:Program} {o:Oper} {σ:Nat→AV} {T:TypeId} {a:Operand} {d off:Nat} {cs:List AV} {e:TypeId} {xs:List (List AV)} (ho:o.op = .load T a) (hT:Ji P T=Xa Xe)
  (ha:Zo P σ a = .ptr d off) (hd:σ d = .box cs) (hx:cs[off]? = Xa (.own Xb e xs)):Js P o σ (.mref d (off+1)) [] [d]:=by
 refine Zq [d] rfl fun c hc σ' tm w lim X hg hfp hsim=>?_;rw [ho] at hg;have hv:=Yf hc hsim ha (hg a (by simp [Op.operands]));have hd':σ' d = .box cs:=by rw [hfp d (by simp),hd]
 rw [← hc] at hv;obtain ⟨b,h1,h2,h3⟩:=Wz hsim hd' hv;have hlt:off < cs.length:=(Xk.1 hx).1;obtain ⟨b0,arr,ty,g1,g2,g3,g4,g5,g6,g7⟩:=h3;have hb0:b0=b:=by rw [g1] at h1;exact XT h1
 subst hb0;have hu:arr[off]? = Xa arr[off]:=XV (by omega);refine ⟨arr[off],?_,e,xs,by rw [hd'];simp only [Zy,hx],?_⟩
 ·have hcell:w.cell? ⟨b0,off,Xc⟩=Xa arr[off]:=by rw [ZR g3];exact hu
  simp [execOp,ho,h2,J7 hT hcell]
 ·have:=Jv.sliceV (show Jv c.P w lim Xb e xs arr[off] (X d (off+1)) from g7 off _ _ hx hu) (hsim.deepB (xs:=xs) (by rw [hd'];simp only [Jg,hx]));rw [hc] at this;exact this
theorem Zbr {T':Odr} {P:Program} {o:Oper} {σ:Nat→AV} {T:TypeId} {a:Operand} {d off:Nat} {cs:List AV} {e:TypeId} {xs:List (List AV)} (ho:o.op = .load T a) (hT:Ji P T=Xa Xe)
  (ha:Zo P σ a = .ptr d off) (hd:σ d = .box cs) (hx:cs[off]? = Xa (.own Xb e xs)) (hk:T'.kp d off=Xb):Ku T' P o σ (.mref d (off+1)) [] []:=by
 refine Zdu hd fun σ' hrel=>?_;obtain ⟨cs2,y,h1,h2,h3⟩:=Zhf hrel hd hk hx;obtain ⟨ys,rfl⟩:=Zji h3;exact ⟨cs2,h1,fun σ2 g1 g2=>Zbn ho hT ((Zd8 hd g1 g2 a).trans ha) g2 h2⟩
theorem ZgE {P:Program} {o:Oper} {σ:Nat→AV} {T:TypeId} {a:Operand} {d off:Nat} {cs:List AV} {e:TypeId} {xs:List (List AV)} (ho:o.op = .load T a) (hT:Ji P T=Xa Xe)
  (ha:Zo P σ a = .ptr d off) (hd:σ d = .box cs) (hx:cs[off]? = Xa (.own Xe e xs)):Js P o σ (.own Xe e xs) [(d,.box (cs.set off (.slice Xe (P.cellsOf e) xs)))] [d]:=by
 intro c hc σ' tm w lim X hid hag hsim next Q hn;have hg:Zo P σ' a=Zo P σ a:=ZJ fun t ht=>hid t (by simp [Zu (o:=o) (x:=a) (by rw [ho];simp [Op.operands]) ht]);have hv:=Yf hc hsim ha hg;have hd':σ' d = .box cs:=by rw [hag d (by simp),hd]
 rw [← hc] at hv;obtain ⟨b,h1,h2,h3⟩:=Wz hsim hd' hv;have hlt:off < cs.length:=(Xk.1 hx).1;have hrel:=hsim.rel d;rw [hd'] at hrel;obtain ⟨b0,arr,ty,g1,g2,g3,g4,g5,g6,g7⟩:=(show Z0 c.P w lim (X d) cs _ from hrel);have hb0:b0=b:=by rw [g1] at h1;exact XT h1
 subst hb0;have hlt':off < arr.size:=by omega
 have hu:arr[off]? = Xa arr[off]:=XV hlt';have hown:Jv c.P w lim Xe e xs arr[off] (X d (off+1)):=g7 off _ _ hx hu
 have hdn:d < c.nt:=by
  rcases XG d c.nt with hlt | hge
  ·exact hlt
  ·have:=hsim.out d hge;rw [hd'] at this;rcases this with h0 | h0<;>cases h0
 have h1':Sim c (upd σ' d (.box (cs.set off (.slice Xe (P.cellsOf e) xs)))) tm w lim (ZcA X d fun k=>if k=off+1 then Xc else X d k):=by
  refine hsim.putRow (S:=fun _=>False) _ (Jh.refl w lim _) (fun _ hs=>hs.elim) hdn rfl (fun j _=>rfl) (.inr ⟨⟨_,rfl⟩,by rw [if_neg (by omega)],rfl⟩) (fun i q hi hr=>?_) ?_ (fun k b hk=>?_) (fun k k' b hk hk'=>?_) (hns:=fun k e1 xs1 b m1 m2 m3=>?_)
  ·obtain ⟨p,hp⟩:=WK hsim hr;rw [hd'] at hp
   cases q with
   | zero => simp [Zy] at hp
   | succ q =>
    have hqo:q≠off:=by
     intro he;subst he;simp [Zy,hx] at hp
    refine ⟨fun e2 xs2 hex=>⟨xs2,?_,rfl⟩,by rw [if_neg (by omega)],fun _ _=>.of rfl⟩;rw [hd'] at hex;simp only [Zy,Wn (Ne.symm hqo)] at hex ⊢;exact hex
  ·refine ⟨b0,arr,ty,by rw [Zv];exact g1,g2,g3,by simp [g4],g5,fun y hy=>?_,fun j y u hy hju=>?_⟩
   ·obtain ⟨j,hj⟩:=XO.1 hy;by_cases hji:j=off
    ·subst hji;rw [Wi hlt] at hj;simp only [Xf] at hj;subst hj;exact .inl rfl
    ·rw [Wn (fun h=>hji h.symm)] at hj;exact g6 y (Xm hj)
   ·rw [Zv];by_cases hji:j=off
    ·subst hji;rw [Wi hlt] at hy;simp only [Xf] at hy;subst hy;rw [hu] at hju;simp only [Xf] at hju;subst hju;have:=Jv.rep hown Xe rfl;rw [hc] at this;exact this
    ·rw [Wn (fun h=>hji h.symm)] at hy;rw [if_neg (by omega)];exact g7 j y u hy hju
  ·split at hk
   ·cases hk
   ·exact ⟨(hsim.ours d k b hk).1,(hsim.ours d k b hk).2,fun a j ha hj=>ha (hsim.dist a j d k b hj hk).1⟩
  ·split at hk<;>split at hk'
   ·omega
   ·cases hk
   ·cases hk'
   ·exact (hsim.dist d k d k' b hk hk').2
  ·rcases Ky m1 with ⟨_,h⟩ | ⟨h,h'⟩
   ·cases h
   ·rw [if_neg h] at m3;exact hsim.nst d k e1 xs1 b (by rw [hd'];exact h') m2 m3
 refine Zj (v:=arr[off]) (w':=w) ?_ (hn _ w (Jn h1' hown (fun b hb=>⟨(hsim.ours d _ b hb).2,fun a j haj=>?_⟩) (fun hx=>by cases hx) fun hx=>by cases hx))
 ·have hcell:w.cell? ⟨b0,off,Xc⟩=Xa arr[off]:=by rw [ZR g3];exact hu
  simp [execOp,ho,h2,J7 hT hcell]
 ·by_cases ha:a=d
  ·subst ha;rw [Zv] at haj;split at haj
   ·cases haj
   ·rename_i hne;exact hne (hsim.dist a j a (off+1) b haj hb).2
  ·rw [Zh X _ ha] at haj;exact ha (hsim.dist a j d (off+1) b haj hb).1
theorem ZeT {T':Odr} {P:Program} {o:Oper} {σ:Nat→AV} {T:TypeId} {a:Operand} {d off:Nat} {cs:List AV} {e:TypeId} {xs:List (List AV)} {us:List (Nat×AV)} (ho:o.op = .load T a) (hT:Ji P T=Xa Xe)
  (ha:Zo P σ a = .ptr d off) (hd:σ d = .box cs) (hx:cs[off]? = Xa (.own Xb e xs)) (hus:Yr T' σ d us) (hmv:Mv P e xs):Ku T' P o σ (.own Xb e xs) (us++[(d,.box (cs.set off .gone))]) [d]:=by
 intro c hc σ' tm w lim X hid hag hT' hsim next Q hn;have hg:Zo P σ' a=Zo P σ a:=ZJ fun t ht=>hid t (by simp [Zu (o:=o) (x:=a) (by rw [ho];simp [Op.operands]) ht]);have hv:=Yf hc hsim ha hg;have hd':σ' d = .box cs:=by rw [hag d (by simp),hd]
 rw [← hc] at hv;obtain ⟨b,h1,h2,h3⟩:=Wz hsim hd' hv;have hlt:off < cs.length:=(Xk.1 hx).1;have hda:=hus.all hT';obtain ⟨hd1,hd2⟩:=hda
 obtain ⟨X1,k1,k2⟩:=hsim.drops us fun u hu=>by
  obtain ⟨m0,m1,k,m3⟩:=hd1 u hu;obtain ⟨p1,p2,p3⟩:=Vi m3;exact ⟨m1,p2,WE hsim (fun e=>by rw [e] at m3;rcases m3 with m3 | ⟨_,m3⟩ <;> cases m3) p3⟩
 have hdm:d∉us.map (·.1):=by
  intro hm;obtain ⟨u,hu,rfl⟩:=Xj.1 hm;exact (hd1 u hu).1 rfl
 have hdead:∀ (σ:Nat→AV) (i:Nat),JG σ us i=if i∈us.map (·.1) then .dead else σ i:=fun σ i=>WG us σ i fun u hu=>(hd1 u hu).2.1;have hds:JG σ' us d = .box cs:=by rw [hdead,if_neg hdm,hd']
 have hnor:∀ i k,i≠d→JB (JG σ' us i) d k→False:=fun i k hi hr=>by
  rw [hdead] at hr;split at hr
  ·rcases hr with hr | ⟨_,hr⟩ <;> cases hr
  ·rename_i hm;exact hm (hd2 i k hi hr)
 have hXd:X1 d=X d:=k2 d hdm;have hrel:=k1.rel d;rw [hds] at hrel;obtain ⟨b0,arr,ty,g1,g2,g3,g4,g5,g6,g7⟩:=(show Z0 c.P w lim (X1 d) cs _ from hrel);have hb0:b0=b:=by rw [hXd] at g1;rw [g1] at h1;exact XT h1
 subst hb0;have hlt':off < arr.size:=by omega
 have hu:arr[off]? = Xa arr[off]:=XV hlt';have hown:Jv c.P w lim Xb e xs arr[off] (X1 d (off+1)):=g7 off _ _ hx hu
 have hdn:d < c.nt:=by
  rcases XG d c.nt with hlt | hge
  ·exact hlt
  ·have:=hsim.out d hge;rw [hd'] at this;rcases this with h0 | h0<;>cases h0
 have h1':Sim c (upd (JG σ' us) d (.box (cs.set off .gone))) tm w lim (ZcA X1 d fun k=>if k=off+1 then Xc else X1 d k):=by
  refine k1.putRow (S:=fun _=>False) _ (Jh.refl w lim _) (fun _ hs=>hs.elim) hdn rfl (fun j _=>rfl) (.inr ⟨⟨_,rfl⟩,by rw [if_neg (by omega)],rfl⟩) (fun i q hi hr=>(hnor i q hi hr).elim) ?_ (fun k b hk=>?_) (fun k k' b hk hk'=>?_) (hns:=fun k e1 xs1 b m1 m2 m3=>?_)
  ·refine ⟨b0,arr,ty,by rw [Zv];exact g1,g2,g3,by simp [g4],g5,fun y hy=>?_,fun j y u hy hju=>?_⟩
   ·obtain ⟨j,hj⟩:=XO.1 hy;by_cases hji:j=off
    ·subst hji;rw [Wi hlt] at hj;simp only [Xf] at hj;subst hj;exact .inr (.inr rfl)
    ·rw [Wn (fun h=>hji h.symm)] at hj;exact g6 y (Xm hj)
   ·rw [Zv];by_cases hji:j=off
    ·subst hji;rw [Wi hlt] at hy;simp only [Xf] at hy;subst hy;exact trivial
    ·rw [Wn (fun h=>hji h.symm)] at hy;rw [if_neg (by omega)];exact g7 j y u hy hju
  ·split at hk
   ·cases hk
   ·exact ⟨(k1.ours d k b hk).1,(k1.ours d k b hk).2,fun a j ha hj=>ha (k1.dist a j d k b hj hk).1⟩
  ·by_cases e1:k=off+1
   ·rw [if_pos e1] at hk;cases hk
   ·by_cases e2:k'=off+1
    ·rw [if_pos e2] at hk';cases hk'
    ·rw [if_neg e1] at hk;rw [if_neg e2] at hk';exact (k1.dist d k d k' b hk hk').2
  ·rcases Ky m1 with ⟨_,h⟩ | ⟨h,h'⟩
   ·cases h
   ·rw [if_neg h] at m3;exact k1.nst d k e1 xs1 b (by rw [hds];exact h') m2 m3
 rw [← Zde] at h1';refine Zj (v:=arr[off]) (w':=w) ?_ (hn _ w (Jn h1' hown (fun b hb=>⟨(k1.ours d _ b hb).2,fun a j haj=>?_⟩) (fun _=>.mv (by rw [hc];exact hmv)) fun _ hdp b hb=>?_))
 rotate_left 2
 ·have:=hsim.ntN;rw [Zh X1 _ (show ngN+b≠d by omega)];exact k1.nst d (off+1) e xs b (by rw [hds];simp only [Jg,hx]) hdp hb
 ·have hcell:w.cell? ⟨b0,off,Xc⟩=Xa arr[off]:=by rw [ZR g3];exact hu
  simp [execOp,ho,h2,J7 hT hcell]
 ·by_cases ha:a=d
  ·subst ha;rw [Zv] at haj;split at haj
   ·cases haj
   ·rename_i hne;exact hne (k1.dist a j a (off+1) b haj hb).2
  ·rw [Zh X1 _ ha] at haj;exact ha (k1.dist a j d (off+1) b haj hb).1
theorem Zda {P:Program} {T ty e:TypeId} {i:TypeInfo} (hT:P.underlying T=Xa (.slice e)) (hi:P.info? e=Xa i) (w:World) (base:Option Addr) (n cap:Nat) (hn:n≤cap) (a:Option Addr) (c:Nat) :
  (Builtin.append_ #[T,T] ty #[.slice base n cap,.slice a 0 c]).run P w = .ok (.slice base n cap) w:=by
 cases a<;>cases base <;>
  simp [Builtin.append_,run_underlying hT,sizeOf,typeInfo,hi,Builtin.lenOf,hn,Builtin.firstCells,loadCells,loadCellsFrom,storeCells]
theorem ZtS {P:Program} {w:World} {lim:Lm} (x:Bool) {e:TypeId} {zs:List (List AV)} {us:List Value} {arr:Array Value} {cap:Nat} (h1:us.length=zs.length*P.cellsOf e) (h2:zs.length≤cap) (h3:cap≤maxLen)
  (h4:arr.size=cap*P.cellsOf e) (h5:arr.toList.take us.length=us) (h6:∀ x∈zs,x.length=P.cellsOf e) (h7:∀ x∈zs,∀ c∈x,c.isCell=Xb)
  (h8:∀ (j:Nat) (c:AV) (u:Value),zs.flatten[j]? = Xa c→us[j]? = Xa u→Rep w lim c u) (S:Nat→Prop) :
  Jv P (w.drew.alloc (.cells arr e)) ⟨fun b=>if b=w.heap.size then (if x=Xb then 0 else us.length) else lim b,lim.t⟩ x e zs (.slice (Xa ⟨w.heap.size,0,Xc⟩) zs.length cap) (Xa w.heap.size)∧
  Jh w lim (w.drew.alloc (.cells arr e)) ⟨fun b=>if b=w.heap.size then (if x=Xb then 0 else us.length) else lim b,lim.t⟩ S:=by
 have hstep:Jh w lim (w.drew.alloc (.cells arr e)) ⟨fun b=>if b=w.heap.size then (if x=Xb then 0 else us.length) else lim b,lim.t⟩ S:=by
  have:=VI w.drew lim arr e (if x=Xb then 0 else us.length) S;exact ⟨this.os,this.tape,this.output,this.size,this.frz,this.blk,⟨this.ext.old,this.ext.t⟩,rfl⟩
 refine ⟨.inl ⟨us,⟨h1,.inr ⟨w.heap.size,cap,arr,rfl,X5 _,Yh w.drew arr e,h2,h3,h4,by rw [← h1];exact h5⟩⟩,rfl,fun b hb=>?_,h6,h7,fun j c u hc hu=>(h8 j c u hc hu).mono hstep.ext⟩,hstep⟩;simp only [Xf] at hb;subst hb;exact if_pos rfl
def RdS (w:World) (lim:Lm) (s:Nat) (ys:List (List AV)) (v:Value):Prop:=
 (ys = []∧∃ a c,v = .slice a 0 c)∨∃ (b o cap:Nat) (us:List Value),v = .slice (Xa ⟨b,o,Xc⟩) ys.length cap∧(∀ e∈ys,e.length=s)∧(∀ e∈ys,∀ c∈e,c.isCell=Xb)∧us.length=ys.length*s∧
  (∀ (j:Nat) (u:Value),us[j]? = Xa u→w.cell? ⟨b,o+j,Xc⟩=Xa u)∧∀ (j:Nat) (c:AV) (u:Value),ys.flatten[j]? = Xa c→us[j]? = Xa u→Rep w lim c u
theorem RdS.of {w:World} {lim:Lm} {f:Bool} {s:Nat} {ys:List (List AV)} {v:Value} (h:Rep w lim (.slice f s ys) v):RdS w lim s ys v:=by
 cases h with
 | sliceN => exact .inl ⟨rfl, _, _, rfl⟩
 | sliceE _ => exact .inl ⟨rfl, _, _, rfl⟩
 | @sliceC _ _ _ b o ycap news hs hcl hf hle hlim hnl hncell hnr => exact .inr ⟨b, o, ycap, news, rfl, hs, hcl, hnl, hncell, hnr⟩
theorem RdS.form {w:World} {lim:Lm} {s:Nat} {ys:List (List AV)} {v:Value} (h:RdS w lim s ys v):∃ a c,v = .slice a ys.length c:=by
 rcases h with ⟨rfl,a,c,h⟩ | ⟨b,o,cap,us,h,_⟩
 ·exact ⟨a,c,h⟩
 ·exact ⟨_,_,h⟩
theorem ZjC {P:Program} {T ty e:TypeId} {i:TypeInfo} {z:Value} {w:World} {lim:Lm} {xs ys:List (List AV)} {v yv:Value} {ob:Option Nat} {x:Bool} (hT:P.underlying T=Xa (.slice e)) (hi:P.info? e=Xa i)
  (hz:i.zero=Xa z) (hzs:z.cells.size=i.size) (hx:Jv P w lim x e xs v ob) {b o ycap:Nat} {news:List Value} (hm:ys≠[]) (hyv:yv = .slice (Xa ⟨b,o,Xc⟩) ys.length ycap) (hs:∀ x∈ys,x.length=P.cellsOf e) (hcl:∀ x∈ys,∀ c∈x,c.isCell=Xb) (hnl:news.length=ys.length*P.cellsOf e)
  (hncell:∀ (j:Nat) (u:Value),news[j]? = Xa u→w.cell? ⟨b,o+j,Xc⟩=Xa u) (hnr:∀ (j:Nat) (c:AV) (u:Value),ys.flatten[j]? = Xa c→news[j]? = Xa u→Rep w lim c u) (hroom:(xs.length+ys.length)*(i.bytes+1)≤ZF) (hnm:Zm P e=Xe) :
  ∃ v' w' lim' ob',(Builtin.append_ #[T,T] ty #[v,yv]).run P w = .ok v' w'∧Jv P w' lim' x e (xs++ys) v' ob'∧Jh w lim w' lim' (fun b=>ob=Xa b)∧(ob'=ob∨ob'=Xa w.heap.size)∧
   ∃ (us:List Value) (b':Nat) (arr:Array Value),ob'=Xa b'∧us.length=xs.length*P.cellsOf e∧w'.heap[b']? = Xa (.cells arr e (0,0))∧arr.toList.take (us++news).length=us++news∧∀ g,ob=Xa g→∀ (j:Nat) (u:Value),us[j]? = Xa u→w.cell? ⟨g,j,Xc⟩=Xa u:=by
 have hsz:P.cellsOf e=i.size:=ZO hi
 have hb1:xs.length+ys.length≤1099511627776:=by
  have:(xs.length+ys.length)*1≤(xs.length+ys.length)*(i.bytes+1):=U5 _ (by omega);unfold ZF at hroom;omega
 have hb2:(xs.length+ys.length)*i.bytes≤1099511627776:=by
  have:(xs.length+ys.length)*i.bytes≤(xs.length+ys.length)*(i.bytes+1):=U5 _ (by omega);unfold ZF at hroom;omega
 subst hyv;have hm0:0 < ys.length:=List.length_pos_iff.2 hm;have hnews:∀ (j:Nat) (u:Value),news[j]? = Xa u→w.cell? ((⟨b,o,Xc⟩:Addr).add j)=Xa u:=fun j u hj=>by rw [Jr];exact hncell j u hj
 have hcells:∀ x∈xs++ys,x.length=P.cellsOf e:=by
  intro x hx';rcases Xv.1 hx' with h | h
  ·rcases hx.noMap hnm with ⟨_,_,_,_,h4,_⟩ | ⟨rfl,_⟩
   ·exact h4 x h
   ·simp at h
  ·exact hs x h
 have hcc:∀ x∈xs++ys,∀ c∈x,c.isCell=Xb:=by
  intro x hx';rcases Xv.1 hx' with h | h
  ·rcases hx.noMap hnm with ⟨_,_,_,_,_,h5,_⟩ | ⟨rfl,_⟩
   ·exact h5 x h
   ·simp at h
  ·exact hcl x h
 have hnew1:∀ u∈news,u.oneCell'=Xb:=by
  intro u hu;obtain ⟨j,hj⟩:=XO.1 hu
  have hlt:j < ys.flatten.length:=by
   rw [Zz ys _ hs,← hnl];exact (Xk.1 hj).1
  have hcell:=hnr j _ u (Xp hlt) hj;obtain ⟨y,hy1,hy2⟩:=UK.1 (Uc hlt);exact hcell.oneCell (hcl y hy1 _ hy2)
 have both:∀ (us:List Value),us.length=xs.length*P.cellsOf e→(∀ x∈xs,x.length=P.cellsOf e)→(∀ (j:Nat) (c:AV) (u:Value),xs.flatten[j]? = Xa c→us[j]? = Xa u→Rep w lim c u)→
   ∀ (j:Nat) (c:AV) (u:Value),(xs++ys).flatten[j]? = Xa c→(us++news)[j]? = Xa u→Rep w lim c u:=by
  intro us hul hxl hur j c u hc hu;have hfl:xs.flatten.length=us.length:=by rw [Zz xs _ hxl,hul]
  rw [UJ] at hc;by_cases hj:j < us.length
  ·rw [Xx (by omega)] at hc;rw [Xx hj] at hu;exact hur j c u hc hu
  ·rw [Xz (by omega),hfl] at hc;rw [Xz (by omega)] at hu;exact hnr _ c u hc hu
 have grown:∀ (us:List Value) (old:Nat),us.length=xs.length*P.cellsOf e→(∀ (j:Nat) (c:AV) (u:Value),xs.flatten[j]? = Xa c→us[j]? = Xa u→Rep w lim c u)→(∀ x∈xs,x.length=P.cellsOf e)→
   ∃ lim',Jv P (w.drew.alloc (.cells (us.toArray++news.toArray++Builtin.zeroCells z.cells (grownCap w (xs.length+ys.length) old e-(xs.length+ys.length))) e)) lim' x e (xs++ys) (.slice (Xa ⟨w.heap.size,0,Xc⟩) (xs.length+ys.length) (grownCap w (xs.length+ys.length) old e)) (Xa w.heap.size)∧
    Jh w lim (w.drew.alloc (.cells (us.toArray++news.toArray++Builtin.zeroCells z.cells (grownCap w (xs.length+ys.length) old e-(xs.length+ys.length))) e)) lim' (fun b=>ob=Xa b):=by
  intro us old hul hur hxl;have hge:=grownCap_ge w (xs.length+ys.length) old e;have hml:=grownCap_le_maxLen w (xs.length+ys.length) old e (by simp only [maxLen];omega)
  have:=ZtS (P:=P) (w:=w) (lim:=lim) x (e:=e) (zs:=xs++ys) (us:=us++news) (arr:=us.toArray++news.toArray++Builtin.zeroCells z.cells (grownCap w (xs.length+ys.length) old e-(xs.length+ys.length)))
   (cap:=grownCap w (xs.length+ys.length) old e) (by rw [Xu,Xu,hul,hnl,Wh]) (by rw [Xu];exact hge) hml ?_ ?_ hcells hcc (both us hul hxl hur) (fun b=>ob=Xa b)
  ·have hla:(xs++ys).length=xs.length+ys.length:=Xu;rw [hla] at this;exact ⟨_,this.1,this.2⟩
  ·simp only [Array.size_append,UB,size_zeroCells,hzs,hul,hnl,hsz,← Wh];congr 1;omega
  ·simp only [Tw];exact U6
 rcases hx.noMap hnm with ⟨us,hr,hob,hlimo,hxl,hxc,hur⟩ | ⟨rfl,hob,b',hv⟩
 ·rcases hr.2 with ⟨hv,hn⟩ | ⟨g,cap,cur,hv,hbg,hg,hnc,hcm,hcs,htake⟩
  ·have hxe:xs = []:=X7 hn;have hue:us = []:=X7 (by rw [hr.1,hn];simp);subst hxe;subst hue;have hrun:=run_append_nil (P:=P) w T ty e i z hT hi hz ⟨b,o,Xc⟩ ys.length ycap news (by rw [hnl,hsz]) hnews hm0 (by omega) (by simp only [XW,XH] at hb2;omega);obtain ⟨lim',h1,h2⟩:=grown [] 0 (by simp) (by simp) (by simp);simp only [XW,XH] at h1 h2;have hemp:([] : List Value).toArray++news.toArray=news.toArray:=by simp
   rw [hemp] at h1 h2;rw [hv];exact ⟨_,_,lim',_,hrun,h1,h2,.inr rfl,[],_,_,rfl,by simp,Yh w.drew _ e,by simp only [Tw,XM];exact U6,fun g _ j u h=>by simp at h⟩
  ·have hobg:ob=Xa g:=by rw [← hob,hv];rfl
   by_cases hroom':xs.length+ys.length≤cap
   ·have hfit:xs.length*i.size+news.length≤cur.size:=by rw [hnl,hcs,hsz,← Wh];exact XZ _ hroom'
    have hrun:=run_append_room (P:=P) w T ty e i hT hi g xs.length cap cur hg ⟨b,o,Xc⟩ ys.length ycap news (by rw [hnl,hsz]) hnews hnew1 hroom' hfit;have htake':cur.toList.take (xs.length*i.size)=us:=by rw [← hsz];exact htake
    rw [htake'] at hrun;have hul:us.length=xs.length*i.size:=by rw [hr.1,hsz]
    have hstep:Jh w lim (w.setRow g (us++news++cur.toList.drop (xs.length*i.size+news.length)).toArray) ⟨fun k=>if k=g then (if x=Xb then 0 else us.length+news.length) else lim k,lim.t⟩ (fun k=>ob=Xa k):=by
     refine ⟨rfl,rfl,rfl,by simp,fun a _=>ZbL w g cur _ e hg a,fun k _ hk=>⟨setRow_other w g k _ (fun h=>hk (by rw [hobg,h])),if_neg (fun h=>hk (by rw [hobg,h]))⟩,⟨fun k hk=>⟨?_,fun p u hp hu=>?_⟩,fun _ _ h=>h⟩,rfl⟩
     ·show lim k≤if k=g then (if x=Xb then 0 else us.length+news.length) else lim k;split
      ·rename_i h;subst h;rw [hlimo k hobg];split<;>omega
      ·exact Xy _
     ·by_cases h:k=g
      ·subst h
       have hp:p < us.length:=by
        rw [hlimo k hobg] at hp;split at hp<;>omega
       rw [ZR (setRow_heap w k cur _ e (0,0) hg)];rw [ZR hg] at hu
       have h1:us[p]? = Xa u:=by
        rw [← htake',XC,if_pos (by omega)];simpa using hu
       rw [List.getElem?_toArray,Xo,Xx hp];exact h1
      ·unfold World.cell? at hu ⊢;rw [setRow_other w g k _ h];exact hu
    refine ⟨_,_,_,Xa g,by rw [hv];exact hrun,.inl ⟨us++news,⟨by rw [Xu,Xu,hul,hnl,hsz,Wh],.inr ⟨g,cap,_,?_,X5 _,setRow_heap w g cur _ e (0,0) hg,by rw [Xu];exact hroom',hcm,?_,?_⟩⟩,rfl,fun b' hb'=>?_,hcells,hcc,fun j c u hc hu=>(both us hr.1 hxl hur j c u hc hu).mono hstep.ext⟩,hstep,.inl hobg.symm,us,g,_,rfl,hr.1,setRow_heap w g cur _ e (0,0) hg,U6,fun g' hg' j u hj=>by
     rw [hobg] at hg';cases hg';have:=hr.cells (g:=g) (by rw [hv];rfl) j u hj;rw [Jr,XH] at this;exact this⟩
    ·rw [Xu]
    ·simp only [UB,Xu,Ui,UD];rw [hcs,hsz];rw [hcs,hsz] at hfit;omega
    ·have:(xs++ys).length*P.cellsOf e=(us++news).length:=by rw [Xu,Xu,hul,hnl,hsz,Wh]
     rw [this];exact U6
    ·simp only [Xf] at hb';subst hb';rw [Xu];exact if_pos rfl
   ·have holds:∀ (j:Nat) (u:Value),us[j]? = Xa u→w.cell? ((⟨g,0,Xc⟩:Addr).add j)=Xa u:=hr.cells (g:=g) (by rw [hv];rfl);have hrun:=run_append_grow (P:=P) w T ty e i z hT hi hz ⟨g,0,Xc⟩ xs.length cap us (by rw [hr.1,hsz]) holds ⟨b,o,Xc⟩ ys.length ycap news (by rw [hnl,hsz]) hnews (by omega) (by omega) (growslice_fits (by omega) (by omega));obtain ⟨lim',h1,h2⟩:=grown us cap hr.1 hur hxl
    exact ⟨_,_,lim',_,by rw [hv];exact hrun,h1,h2,.inr rfl,us,_,_,rfl,hr.1,Yh w.drew _ e,by simp only [Tw];exact U6,fun g' hg' j u hj=>by
     rw [hobg] at hg';cases hg';have:=holds j u hj;rw [Jr,XH] at this;exact this⟩
 ·have hrun:=run_append_grow (P:=P) w T ty e i z hT hi hz b' 0 0 [] (by simp) (by simp) ⟨b,o,Xc⟩ ys.length ycap news (by rw [hnl,hsz]) hnews (by omega) (by omega) (growslice_fits (by omega) (by simp only [XW] at hb2;omega));obtain ⟨lim',h1,h2⟩:=grown [] 0 (by simp) (by simp) (by simp);exact ⟨_,_,lim',_,by rw [hv];exact hrun,h1,h2,.inr rfl,[],_,_,rfl,by simp,Yh w.drew _ e,by simp only [Tw,XM];exact U6,fun g _ j u h=>by simp at h⟩
theorem Y1 {P:Program} {T ty e:TypeId} {i:TypeInfo} {z:Value} {w:World} {lim:Lm} {xs ys:List (List AV)} {v yv:Value} {ob:Option Nat} {x:Bool} (hT:P.underlying T=Xa (.slice e)) (hi:P.info? e=Xa i)
  (hz:i.zero=Xa z) (hzs:z.cells.size=i.size) (hx:Jv P w lim x e xs v ob) (hy:RdS w lim (P.cellsOf e) ys yv) (hroom:(xs.length+ys.length)*(i.bytes+1)≤ZF) (hnm:Zm P e=Xe) :
  ∃ v' w' lim' ob',(Builtin.append_ #[T,T] ty #[v,yv]).run P w = .ok v' w'∧Jv P w' lim' x e (xs++ys) v' ob'∧Jh w lim w' lim' (fun b=>ob=Xa b)∧(ob'=ob∨ob'=Xa w.heap.size):=by
 have hvform:∃ base cap,v = .slice base xs.length cap∧xs.length≤cap:=by
  rcases hx.noMap hnm with ⟨us,hr,_⟩ | ⟨rfl,_,a,rfl⟩
  ·rcases hr.2 with ⟨hv,hn⟩ | ⟨g,cap,cur,hv,_,_,hnc,_⟩
   ·exact ⟨Xc,0,by rw [hv,hn],by omega⟩
   ·exact ⟨_,cap,hv,hnc⟩
  ·exact ⟨_,0,rfl,Xy _⟩
 by_cases hm:ys = []
 ·subst hm;obtain ⟨base,cap,hv,hle⟩:=hvform;obtain ⟨a,c,hyv⟩:=hy.form;refine ⟨v,w,lim,ob,?_,by rw [XN];exact hx,Jh.refl w lim _,.inl rfl⟩;rw [hv,hyv];exact Zda hT hi w base xs.length cap hle a c
 ·rcases hy with ⟨hye,_⟩ | ⟨b,o,ycap,news,hyv,hs,hcl,hnl,hncell,hnr⟩
  ·exact (hm hye).elim
  ·obtain ⟨v',w',lim',ob',h1,h2,h3,h4,_⟩:=ZjC (ty:=ty) hT hi hz hzs hx hm hyv hs hcl hnl hncell hnr hroom hnm;exact ⟨v',w',lim',ob',h1,h2,h3,h4⟩
theorem ZdB {P:Program} {o:Oper} {σ:Nat→AV} (x:Bool) {T e:TypeId} {len:Nat} {parts:Array (Nat×Operand)} {i:TypeInfo} {z:Value} {zc cs cs':List AV} (ho:o.op = .buildSlice T len parts)
  (hT:P.underlying T=Xa (.slice e)) (hi:P.info? e=Xa i) (hz:i.zero=Xa z) (hzc:ZaL z.cells.toList=Xa zc) (hzs:z.cells.size=i.size) (hs0:0 < i.size) (hbig:len*i.size≤1048576) (hnm:Zm P e=Xe)
  (hf:ZaM (fun j=>Xa (j*i.size,i.size)) ((Xg len zc).flatten) (parts.toList.map fun p=>(p.1,Zo P σ p.2))=Xa cs)
  (hw:cs'.length=cs.length∧∀ (w:World) (lim:Lm) (us:List Value),JI w lim cs us→JI w lim cs' us):Js P o σ (.own x e (YE i.size cs' len)) [] []:=by
 intro c hc σ' tm w lim X hid hag hsim next Q hn
 have hg:∀ p∈parts.toList,Zo P σ' p.2=Zo P σ p.2:=fun p hp=>ZJ fun t ht=>hid t (by
  refine Zu (x:=p.2) ?_ ht;rw [ho];simp only [Op.operands,List.mem_toArray];exact Xj.2 ⟨p,hp,rfl⟩)
 obtain ⟨h1,h2⟩:=Zcj hc hsim parts hg;have hz0:=JY (JX (w:=w) (lim:=lim) hzc) len;obtain ⟨us',h3,h4⟩:=ZcQ (P:=P) (X:=X) (σ:=σ') (k:=0) _ _ _ _ _ hz0 h1 h2 hf;have hzl:z.cells.toList.length=i.size:=by rw [← hzs];simp
 have hcl:cs.length=len*i.size:=by
  have hinv:∀ (parts:List (Nat×AV)) (cells out:List AV),ZaM (fun j=>Xa (j*i.size,i.size)) cells parts=Xa out→out.length=cells.length:=by
   intro parts
   induction parts with
   | nil => intro cells out h; simp only [ZaM, Xf] at h; rw [h]
   | cons p parts ih =>
    intro cells out h;simp only [ZaM] at h;split at h
    ·split at h
     ·rename_i hcond;rw [ih _ _ h];simp;omega
     ·cases h
    ·cases h
  rw [hinv _ _ _ hf];have hzcl:zc.length=i.size:=by rw [(JX (w:=w) (lim:=lim) hzc).1,hzl]
  simp [hzcl]
 replace h4:=hw.2 _ _ _ h4
 have hcl':cs'.length=len*i.size:=by rw [hw.1,hcl]
 have hb:(Instr.buildSlice T len (parts.map fun p=>(p.1,Act.eval ⟨tm,[]⟩ p.2))).run P w = .ok (.slice (Xa ⟨w.heap.size,0,Xc⟩) len len) (w.alloc (.cells us'.toArray e)):=by
  have hnb:¬ (2^24 < len*i.size):=by omega
  by_cases hnz:len*i.size=0
  ·have hl0:len=0:=(Nat.mul_eq_zero.1 hnz).elim id fun h=>by omega
   subst hl0;have hr0:Array.range 0 = #[]:=rfl;simp only [Instr.buildSlice,Sem.run_bind,run_underlying hT,Result.andThen_ok,sizeOf,typeInfo,run_program,hi,Sem.run_pure,gt_iff_lt,Nat.zero_mul,Nat.not_lt_zero,if_false,if_true,hr0,Array.map_empty];simp only [List.replicate_zero,List.flatten_nil] at h3;rw [h3];simp [newRow]
  ·have hrep:=replicate_zero z.cells.toList len;rw [hzl,UA] at hrep;simp only [Instr.buildSlice,Sem.run_bind,run_underlying hT,Result.andThen_ok,sizeOf,typeInfo,run_program,hi,Sem.run_pure,gt_iff_lt,if_neg hnb,if_neg hnz,zeroValue,hz];rw [hrep,h3];simp [newRow]
 have hsz:P.cellsOf e=i.size:=ZO hi;have hstep:=VI w lim us'.toArray e (if x=Xb then 0 else us'.length) (fun _=>False);have hel:(YE i.size cs' len).length=len:=by simp [YE]
 have hfl:=VQ i.size len cs' hcl';have h5:=h4.mono hstep.ext;have hlu:us'.length=len*i.size:=by rw [← h4.1,hcl']
 have hlm:len≤maxLen:=by
  have:len*1≤len*i.size:=U5 _ hs0;have:(1048576:Nat)≤maxLen:=by decide
  omega
 have key:Jv P (w.alloc (.cells us'.toArray e)) ⟨fun b=>if b=w.heap.size then (if x=Xb then 0 else us'.length) else lim b,lim.t⟩ x e (YE i.size cs' len) (.slice (Xa ⟨w.heap.size,0,Xc⟩) (YE i.size cs' len).length len) (Xa w.heap.size):=by
  refine .inl ⟨us',⟨by rw [hel,hsz,hlu],.inr ⟨w.heap.size,len,us'.toArray,rfl,X5 _,Yh w _ e,by rw [hel];exact Xy _,hlm,by simp [hsz,hlu],by rw [hel,hsz,← hlu];simp⟩⟩,rfl,fun b hb=>?_,fun x hx=>?_,fun x hx y hy=>?_,fun j y u hy hu=>?_⟩
  ·simp only [Xf] at hb;subst hb;exact if_pos rfl
  ·obtain ⟨j,hj,rfl⟩:=Xj.1 hx;have hj':j < len:=List.mem_range.1 hj;have hm:j*i.size+i.size≤len*i.size:=by rw [← Uk];exact XZ _ hj'
   simp [hcl',hsz];omega
  ·refine h5.2.1 y ?_;rw [← hfl];exact UK.2 ⟨x,hx,hy⟩
  ·rw [hfl] at hy;exact h5.2.2 j y u hy hu
 rw [hel] at key;have hw2:=hsim.world hstep fun _ hs=>hs.elim;refine Zj (v:=.slice (Xa ⟨w.heap.size,0,Xc⟩) len len) (w':=w.alloc (.cells us'.toArray e)) (by simp only [execOp,ho,Sem.run_bind,hb,Result.andThen_ok,Sem.run_pure]) (hn _ _ (Jn hw2 (by rw [hc];exact key) (fun b hb=>?_) (fun _=>.cells fun b hb=>by cases hb;exact ⟨_,_,_,Yh w _ e⟩) fun _ hd=>by rw [hc,Jc hnm] at hd;cases hd));simp only [Xf] at hb;subst hb;exact ⟨.inr hsim.frm.size,fun i j=>YG hsim i j⟩
theorem Zer {T':Odr} {P:Program} {o:Oper} {σ:Nat→AV} {cl:Call} {T e:TypeId} {i:TypeInfo} {z:Value} {t:Nat} {y:Operand} {x:Bool} {xs ys:List (List AV)} {us:List (Nat×AV)} {f:Bool} (ho:o.op = .call cl) (hcl:cl.callee = .builtin .append)
  (hargs:cl.args.toList = [.tmp t,y]) (hts:cl.argTypes.toList = [T,T]) (hT:P.underlying T=Xa (.slice e)) (hi:P.info? e=Xa i) (hz:i.zero=Xa z) (hzs:z.cells.size=i.size)
  (ht:σ t = .own x e xs) (hy:Zo P σ y = .slice f i.size ys) (hroom:(xs.length+ys.length)*(i.bytes+1)≤ZF) (hus:(x=Xe∧us = [])∨Yr T' σ t us) (hnm:Zm P e=Xe) :
  Ku T' P o σ (.own x e (xs++ys)) ((t,ZaW P x e xs)::us) []:=by
 have hargs':cl.args = #[.tmp t,y]:=by apply XK.1;rw [hargs]
 have hts':cl.argTypes = #[T,T]:=by apply XK.1;rw [hts]
 intro c hc σ' tm w lim X hid hag hTx hsim next Q hn;have hsz:P.cellsOf e=i.size:=ZO hi;have hgy:Zo P σ' y=Zo P σ y:=ZJ fun t ht=>hid t (by simp [Zu (o:=o) (x:=y) (by rw [ho];simp [Op.operands,Call.operands,hargs',hcl]) ht]);have ht':σ' t = .own x e xs:=by rw [hag t (by simp),ht]
 obtain ⟨X1,h1,h2,h3,_⟩:=hsim.freeAll (us:=us) ht' (hus.imp id fun h=>h.all hTx);have hyv:Rep w lim (.slice f (P.cellsOf e) ys) (Act.eval ⟨tm,[]⟩ y):=by rw [hsz];exact Yf hc hsim hy hgy
 rw [hc] at h2;obtain ⟨v',w',lim',ob',r1,r2,r3,r4⟩:=Y1 (ty:=o.type) hT hi hz hzs h2 (.of hyv) hroom hnm;have hw:=h1.world r3 h3;refine Zj (v:=v') (w':=w') ?_ (hn _ w' ?_)
 ·have hev:Act.eval ⟨tm,[]⟩ (.tmp t)=tm.getD t undef:=rfl;simp only [execOp,ho,resolve,hcl,hargs',hts',Ws,Xh,XF,Sem.run_bind,Sem.run_pure,Result.andThen_ok,invoke,builtin,hev,r1]
 ·rw [hc] at hw;rw [← hc] at r2;refine Jn hw r2 (fun b hb=>?_) (fun _=>.noMap (by rw [hc];exact hnm)) fun _ hd=>by rw [hc,Jc hnm] at hd;cases hd
  rcases r4 with r4 | r4
  ·rw [r4] at hb;exact h3 b hb
  ·rw [r4] at hb;simp only [Xf] at hb;subst hb;exact ⟨.inr hsim.frm.size,fun i j=>YG h1 i j⟩
theorem ZbC {P:Program} {w:World} {lim:Lm} {x:Bool} {e:TypeId} {v:Value} {s:Nat} (h:Rep w lim (.slice Xb s []) v):Jv P w lim x e [] v Xc:=by
 have key:∀ (y:AV),Rep w lim y v→y = .slice Xb s []→Jv P w lim x e [] v Xc:=by
  intro y hy hye
  cases hy with
  | sliceN => exact .inl ⟨[], World.ownsRow_nil _ 0 e _, rfl, by simp, by simp, by simp, by simp⟩
  | @sliceE f s' a cap hf =>
   injection hye with h1 h2 h3;have:=hf h1;subst this;exact .inr (.inl ⟨rfl,rfl,a,rfl⟩)
  | @sliceC f s' xs b o cap us hs hc hf hle hlim hus hcell hr =>
   injection hye with h1 h2 h3;subst h3;have:=hf h1;simp at this;subst this;exact .inr (.inl ⟨rfl,rfl,_,rfl⟩)
  | val _ => cases hye
  | agg _ _ _ => cases hye
  | nest => cases hye
  | oref0 => cases hye
  | oref => cases hye
  | osl0 => cases hye
  | osl => cases hye
  | omap => cases hye
  | fnc => cases hye
  | omap0 => cases hye
  | fncN => cases hye
 exact key _ h rfl
theorem ZcE {P:Program} {o:Oper} {σ:Nat→AV} (ex:Bool) {cl:Call} {T e:TypeId} {i:TypeInfo} {z:Value} {x y:Operand} {ys:List (List AV)} {f:Bool} {s:Nat} (ho:o.op = .call cl) (hcl:cl.callee = .builtin .append)
  (hargs:cl.args.toList = [x,y]) (hts:cl.argTypes.toList = [T,T]) (hT:P.underlying T=Xa (.slice e)) (hi:P.info? e=Xa i) (hz:i.zero=Xa z) (hzs:z.cells.size=i.size)
  (hx:Zo P σ x = .slice Xb s []) (hy:Zo P σ y = .slice f i.size ys) (hroom:(([] : List (List AV)).length+ys.length)*(i.bytes+1)≤ZF) (hnm:Zm P e=Xe) :
  Js P o σ (.own ex e ys) [] []:=by
 have hargs':cl.args = #[x,y]:=by apply XK.1;rw [hargs]
 have hts':cl.argTypes = #[T,T]:=by apply XK.1;rw [hts]
 intro c hc σ' tm w lim X hid hag hsim next Q hn;have hsz:P.cellsOf e=i.size:=ZO hi;have hgx:Zo P σ' x=Zo P σ x:=ZJ fun t ht=>hid t (by simp [Zu (o:=o) (x:=x) (by rw [ho];simp [Op.operands,Call.operands,hargs',hcl]) ht]);have hgy:Zo P σ' y=Zo P σ y:=ZJ fun t ht=>hid t (by simp [Zu (o:=o) (x:=y) (by rw [ho];simp [Op.operands,Call.operands,hargs',hcl]) ht]);have hxv:Jv P w lim ex e [] (Act.eval ⟨tm,[]⟩ x) Xc:=ZbC (s:=s) (Yf hc hsim hx hgx);have hyv:Rep w lim (.slice f (P.cellsOf e) ys) (Act.eval ⟨tm,[]⟩ y):=by rw [hsz];exact Yf hc hsim hy hgy
 obtain ⟨v',w',lim',ob',r1,r2,r3,r4⟩:=Y1 (ty:=o.type) hT hi hz hzs hxv (.of hyv) hroom hnm;have hw:=hsim.world r3 fun b hb=>by cases hb
 refine Zj (v:=v') (w':=w') ?_ (hn _ w' ?_)
 ·simp only [execOp,ho,resolve,hcl,hargs',hts',Ws,Xh,XF,Sem.run_bind,Sem.run_pure,Result.andThen_ok,invoke,builtin,r1]
 ·rw [← hc,XM] at r2;refine Jn hw r2 (fun b hb=>?_) (fun _=>.noMap (by rw [hc];exact hnm)) fun _ hd=>by rw [hc,Jc hnm] at hd;cases hd
  rcases r4 with r4 | r4
  ·rw [r4] at hb;cases hb
  ·rw [r4] at hb;simp only [Xf] at hb;subst hb;exact ⟨.inr hsim.frm.size,fun i j=>YG hsim i j⟩
theorem ZeG {T':Odr} {P:Program} {o:Oper} {σ:Nat→AV} {T:TypeId} {parts:Array (Nat×Operand)} {f t:Nat} {fs:Array Field} {fd:Field} {i:TypeInfo} {z:Value} {zc:List AV} {e:TypeId} {xs:List (List AV)} {us:List (Nat×AV)} (ho:o.op = .build T parts) (hp:parts.toList = [(f,.tmp t)])
  (hT:P.underlying T=Xa (.struct fs)) (hi:P.info? T=Xa i) (hz:i.zero=Xa z) (hzc:ZaL z.cells.toList=Xa zc) (hall:(fs.toList.all fun f=>(P.info? f.type).isSome)=Xb) (hfd:fs[f]? = Xa fd)
  (h1:P.cellsOf fd.type=1) (hoff:fd.offset < zc.length) (ht:σ t = .own Xb e xs) (hus:Yr T' σ t us) :
  Ku T' P o σ (.aggo (zc.set fd.offset (.own Xb e xs))) ((t,ZaW P Xb e xs)::us) []:=by
 have hp':parts = #[(f,.tmp t)]:=by apply XK.1;rw [hp]
 intro c hc σ' tm w lim X hid hag hTx hsim next Q hn;have ht':σ' t = .own Xb e xs:=by rw [hag t (by simp),ht]
 obtain ⟨X1,k1,k2,k3,k4⟩:=hsim.freeAll (us:=us) ht' (.inr (hus.all hTx));rw [hc] at k1 k2;have hcell:(tm.getD t undef).cells = #[tm.getD t undef]:=(Jv.cells1 k2).1;have hzr:=JX (w:=w) (lim:=lim) hzc;have hzl:fd.offset < z.cells.toList.length:=by rw [← hzr.1];exact hoff
 have hzip:=Zj7 fd.offset [tm.getD t undef] z.cells.toList.toArray (by have:=hzl;simp at this ⊢; omega);simp only [XA,XW,XH] at hzip
 have hrun:(execOp (Act.eval ⟨tm,[]⟩) o).run P w = .ok (.value (.agg (z.cells.toList.set fd.offset (tm.getD t undef)).toArray)) w:=by
  have hpl:(fun (i:Nat)=>(fs.map fun (f:Field)=>(f.offset,P.cellsOf f.type))[i]?)=fun (i:Nat)=>(fs[i]?).map fun (f:Field)=>(f.offset,P.cellsOf f.type):=by
   funext i;simp
  have hb:(Instr.build T (parts.map fun p=>(p.1,Act.eval ⟨tm,[]⟩ p.2))).run P w = .ok (.agg (z.cells.toList.set fd.offset (tm.getD t undef)).toArray) w:=by
   simp only [Instr.build,Sem.run_bind,zeroValue,typeInfo,run_program,hi,hz,Result.andThen_ok,Sem.run_pure,run_underlying hT];have hpq:=Zfx (P:=P) w fs hall;rw [hpq];simp only [Result.andThen_ok];rw [hpl,hp'];have hev:Act.eval ⟨tm,[]⟩ (.tmp t)=tm.getD t undef:=rfl
   have hsz:¬ (z.cells.size < fd.offset+1):=by
    have:z.cells.toList.length=z.cells.size:=by simp
    omega
   simp only [Ws,Xh,XF,hev,Instr.fill,hfd,Xw,h1,hcell];rw [if_neg (by simp;omega)]
   have h2:z.cells.toList.take fd.offset++[tm.getD t undef]++z.cells.toList.drop (fd.offset+1)=z.cells.toList.set fd.offset (tm.getD t undef):=by
    rw [TG,if_pos hzl];simp
   rw [UA] at hzip;rw [hzip,h2];rfl
  simp only [execOp,ho,Sem.run_bind,hb,Result.andThen_ok,Sem.run_pure]
 refine Zj hrun (hn _ w ?_);rw [← hc] at k1 k2;have hlenz:(z.cells.toList.set fd.offset (tm.getD t undef)).length=(zc.set fd.offset (.own Xb e xs)).length:=by rw [US,US,hzr.1]
 cases hdst:o.dst with
 | none => rw [hc] at k1; exact ⟨lim, X1, by rw [← hc] at k1 ⊢; exact k1⟩
 | some d =>
  intro hd hm;rw [← hc]
  refine ⟨lim,_,k1.putRow (hns:=fun k e1 xs1 b m1 m2 m3=>by
   split at m3
   ·rename_i hk;subst hk
    have hx1:(e1,xs1)=(e,xs):=by
     simp only [Jg] at m1;rw [Wi (by simpa using hoff)] at m1;simpa using m1.symm
    cases hx1
    rw [k4 _ (XI hsim.ntN (XX _ _))];exact hsim.nst t 0 _ _ b (by rw [ht'];rfl) m2 m3
   ·cases m3) (fun k=>if k=fd.offset+1 then X t 0 else Xc) (Jh.refl w lim (fun _=>False)) (fun _ hs=>hs.elim) hd (tm':=tm.setIfInBounds d (.agg (z.cells.toList.set fd.offset (tm.getD t undef)).toArray)) (by simp) (fun i hi=>Z3 tm d i _ hi)
   (.inl (by rw [hc];exact (ZW hm).1)) (fun i q hi hr=>(k1.noRefs (by rw [hc];exact (ZW hm).none) i q hi hr).elim) ?_ (fun k b hk=>?_) (fun k k' b hk hk'=>?_)⟩
  ·rw [J2 tm d _ (by rw [hsim.size];exact hd)];refine ⟨_,rfl,hlenz,⟨fun x hx=>?_,fun u hu=>?_⟩,fun j x u hx hu=>?_⟩
   ·rcases Ur hx with hx | hx
    ·exact .inl (hzr.2.1 x hx)
    ·exact .inr (.inl ⟨_,_,_,hx⟩)
   ·rcases Ur hu with hu | rfl
    ·obtain ⟨j,hj⟩:=XO.1 hu;have hlt:j < zc.length:=by rw [hzr.1];exact (Xk.1 hj).1
     exact (hzr.2.2 j _ u (Xp hlt) hj).oneCell (hzr.2.1 _ (Uc hlt))
    ·exact (Jv.cells1 k2).2
   ·rw [Zv];by_cases hj:j=fd.offset
    ·subst hj;rw [Wi hoff] at hx;rw [Wi hzl] at hu;simp only [Xf] at hx hu;subst hx;subst hu;rw [if_pos rfl];exact k2
    ·rw [Wn (fun h=>hj h.symm)] at hx hu;rw [if_neg (by omega)];have hrj:=hzr.2.2 j x u hx hu;have hxc:=hzr.2.1 x (Xm hx)
     cases x<;>simp [AV.isCell] at hxc<;>exact hrj
  ·split at hk
   ·obtain ⟨m1,m2⟩:=k3 b hk;exact ⟨(hsim.ours t 0 b hk).1,m1,fun i j _=>m2 i j⟩
   ·cases hk
  ·split at hk<;>split at hk'
   ·omega
   ·cases hk'
   ·cases hk
   ·cases hk
theorem ZdJ {P:Program} {o:Oper} {σ:Nat→AV} {T:TypeId} {a:Operand} {t d off:Nat} {cs vc:List AV} (ho:o.op = .store T a (.tmp t)) (ha:Zo P σ a = .ptr d off) (hd:σ d = .box cs) (ht:σ t = .aggo vc)
  (hn:vc.length=P.cellsOf T) (h0:P.cellsOf T≠0) (hfit:off+P.cellsOf T≤cs.length) (hnr:Zdg ((cs.drop off).take (P.cellsOf T))) :
  Js P o σ .dead [(t,.dead),(d,.box (cs.take off++vc++cs.drop (off+P.cellsOf T)))] [d]:=by
 intro c hc σ' tm w lim X hid hag hsim next Q hnx;have hga:Zo P σ' a=Zo P σ a:=ZJ fun t ht=>hid t (by simp [Zu (o:=o) (x:=a) (by rw [ho];simp [Op.operands]) ht]);have hd':σ' d = .box cs:=by rw [hag d (by simp),hd]
 have ht':σ' t = .aggo vc:=by rw [hag t (by simp),ht]
 have hdt:d≠t:=fun h=>by rw [h,ht'] at hd';cases hd'
 have hva:=Yf hc hsim ha hga;rw [← hc] at hva;obtain ⟨b,h1,h2,h3⟩:=Wz hsim hd' hva;obtain ⟨i,hi⟩:=Zx h0;have hrt:=hsim.rel t;rw [ht'] at hrt;obtain ⟨us,u1,u2,u3,u4⟩:=hrt;have htn:t < c.nt:=WE hsim (by rw [ht'];exact fun h=>by cases h) (by rw [ht'];rfl);have k1:Sim c (upd σ' t .dead) tm w lim (ZcA X t YQ):=hsim.weaken (k:=0) htn (fun cs h=>by rw [ht'] at h;cases h) (hsim.noRefs fun k=>by rw [ht'];rfl) rfl (fun i q hq=>by rcases hq with hq | ⟨_,hq⟩ <;> cases hq) trivial;have hd1:upd σ' t .dead d = .box cs:=by rw [Ze _ _ hdt,hd']
 obtain ⟨b0,arr,ty,g1,g2,g3,g4,g5,g6,g7⟩:=h3;have hb0:b0=b:=by rw [g1] at h1;exact XT h1
 subst hb0
 have hset:=k1.setCells (off:=off) (vc:=vc) (us:=us) (b:=b0) (fun j=>if j < vc.length then X t (j+1) else Xc) hd1 (by rw [Zh X YQ hdt];exact g1) (by rw [hn];exact hfit) u2.symm u3.1 (fun j x u hx hu=>?_) g3
  (fun k q1 q2 i hi hr=>Zec k1 hd1 (by rw [← hn] at hnr;exact hnr) q1 q2 hr) (fun j b' hb'=>?_) (hnw:=fun j e1 xs1 b' m1 m2 m3=>?_)
 ·refine Y2 (w':=w.setRow b0 (arr.toList.take off++us++arr.toList.drop (off+us.length)).toArray) ?_ (hnx undef _ ?_)
  ·have hev:Act.eval ⟨tm,[]⟩ (.tmp t) = .agg us.toArray:=u1
   have hst:=YW (P:=P) (T:=T) (w:=w) (b:=b0) (off:=off) (v:=.agg us.toArray) (us:=us) hi rfl (by rw [u2,hn]) g3 (by rw [u2,hn,g4];exact hfit) (fun u hu=>by
    exact u3.2 u hu)
   simp only [execOp,ho,h2,hev,Sem.run_bind,hst,Result.andThen_ok,Sem.run_pure]
  ·rw [hn] at hset;exact Zw hset rfl (k:=0) trivial
 ·have hlt:j < vc.length:=(Xk.1 hx).1;show Yq c.P w lim (if j < vc.length then X t (j+1) else Xc) x u;rw [if_pos hlt];exact u4 j x u hx hu
 ·have hb2:(if j < vc.length then X t (j+1) else Xc)=Xa b':=hb';split at hb2
  ·rename_i hlt;obtain ⟨o1,o2⟩:=hsim.ours t (j+1) b' hb2;refine ⟨hlt,o2,o1,fun i k hik=>?_,fun i' hi'=>?_⟩
   ·by_cases hit:i=t
    ·subst hit;rw [Zv] at hik;cases hik
    ·rw [Zh X YQ hit] at hik;exact hit (hsim.dist i k t (j+1) b' hik hb2).1
   ·have hi2:(if i' < vc.length then X t (i'+1) else Xc)=Xa b':=hi';split at hi2
    ·have:=(hsim.dist t (j+1) t (i'+1) b' hb2 hi2).2;omega
    ·cases hi2
  ·cases hb2
 ·have h5:(if j < vc.length then X t (j+1) else Xc)=Xa b':=m3;split at h5
  ·have:=hsim.ntN;rw [Zh X YQ (show ngN+b'≠t by omega)];exact hsim.nst t (j+1) e1 xs1 b' (by rw [ht'];simp only [Jg,m1]) m2 h5
  ·cases h5
def ZB (l:List AV):Nat→AV:=fun i=>(l[i]?).getD .dead
def ZmH (X:Nat→Nat→Option Nat):Prop:=∀ d k d' k' b,X d k=Xa b→X d' k'=Xa b→d=d'∧k=k'
def Callable (P : Program) (f : FuncId) : Prop := ∃ fn, P.funcs[f]? = Xa fn ∧ (fn.name == "runtime.NumGoroutine") = Xe ∧ fn.body.isNone = Xe
def Zaz (n:Nat) (cargs:List Value) (v:Value) (i:Nat):Value:=if i=n then v else cargs.getD i undef
def VS (P:Program) (aZ:List AV):Prop:=∀ i k e xs,Jg (ZB aZ i) k=Xa (e,xs)→Zn P e=Xe
def ZsC (P:Program) (w:World) (lim:Lm) (X:Nat→Nat→Option Nat) (res:AV) (n:Nat):Prop:=
 ∀ k e xs b,Jg res k=Xa (e,xs)→Zn P e=Xb→X n k=Xa b→ZaO P w lim e xs b (X (ngN+b))
def JN (P:Program) (f:FuncId) (args:List AV) (res:AV) (outs:List AV):Prop:=
 Callable P f∧args.length < ngN∧∀ (w:World) (lim:Lm) (X:Nat→Nat→Option Nat) (cargs:List Value),cargs.length+args.countP AV.isG≤args.length→
  (∀ i,ZS P w lim X (ZB args) i (ZB args i) (cargs.getD i undef))→ZmH X→(∀ i k b,X i k=Xa b→b < w.heap.size)→(∀ i,args.length≤i→∀ k,X i k=Xc)→
  Calls P f cargs.toArray w fun e w'=>∃ v lim' X',e = .returned v∧K7 w lim w' lim' (fun b=>∃ i k,X i k=Xa b) (args.any AV.isSto)∧outs.length=args.length∧
   (∀ i,ZS P w' lim' X' (ZB (outs++[res])) i (ZB (outs++[res]) i) (Zaz args.length cargs v i))∧ZmH X'∧
   (∀ i k b,X' i k=Xa b→b < w'.heap.size∧((∃ i k,X i k=Xa b)∨w.heap.size≤b))∧(∀ i,(ZB (outs++[res]) i).isG=Xb→(ZB args i).isG=Xb∧X' i 0=X i 0)∧VS P outs∧ZsC P w' lim' X' res args.length
def ZaI (x:AV):Bool:=match x with | .val _=>Xb | _=>Xe
def ZeD (x:AV):Bool:=
 match x with
 | .val _ => Xb
 | .dead => Xb
 | .agg cs => cs.all ZaI
 | .box cs => cs.all ZaI
 | .gbox cs => cs.all ZaI
 | .tuple vs => vs.all fun v => match v with | .agg cs => cs.all ZaI | v => ZaI v
 | _ => Xe
def Za9 (lim:Lm) (b0 N:Nat):Lm:=⟨fun b=>if b=b0 then N else lim b,lim.t⟩
theorem Zc2 {w w':World} {lim lim':Lm} {x:AV} {v:Value} (hx:ZaI x=Xb) (h:Rep w lim x v):Rep w' lim' x v:=by
 cases x<;>simp [ZaI] at hx
 cases h with
 | val h => exact .val h
theorem ZlU {w w':World} {lim lim':Lm} {cs:List AV} {v:Value} (hx:cs.all ZaI=Xb) (h:Rep w lim (.agg cs) v):Rep w' lim' (.agg cs) v:=by
 rw [XD] at hx
 cases h with
 | agg hl hc hr => exact .agg hl hc fun i c v hi hv => Zc2 (hx c (Xm hi)) (hr i c v hi hv)
theorem Zoz {P:Program} {w w':World} {lim lim':Lm} {ob:Option Nat} {x:AV} {v:Value} (hx:ZaI x=Xb) (h:Yq P w lim ob x v):Yq P w' lim' ob x v:=by
 cases x<;>simp [ZaI] at hx
 exact Zc2 rfl (show Rep w lim _ v from h)
theorem Zfh {P:Program} {w:World} {lim lim':Lm} {X:Nat→Option Nat} {cs:List AV} {v:Value} (hx:cs.all ZaI=Xb) (hl:∀ b,X 0=Xa b→lim' b=lim b) (h:Z0 P w lim X cs v):Z0 P w lim' X cs v:=by
 rw [XD] at hx;obtain ⟨b,arr,t,h1,h2,h3,h4,h5,h6,h7⟩:=h;exact ⟨b,arr,t,h1,h2,h3,h4,(hl b h1).trans h5,h6,fun i c u hc hu=>Zoz (hx c (Xm hc)) (h7 i c u hc hu)⟩
theorem Zot {P:Program} {w:World} {lim lim':Lm} {X:Nat→Nat→Option Nat} {σ:Nat→AV} {d:Nat} {x:AV} {v:Value} (hx:ZeD x=Xb) (hl:∀ b,X d 0=Xa b→lim' b=lim b) (h:ZS P w lim X σ d x v):ZS P w lim' X σ d x v:=by
 cases x with
 | val u => exact Zc2 rfl (show Rep w lim _ v from h)
 | dead => trivial
 | agg cs => exact ZlU hx (show Rep w lim _ v from h)
 | box cs => exact Zfh hx hl h
 | gbox cs =>
  obtain ⟨v',h⟩:=h;exact ⟨v',Zfh hx hl h⟩
 | tuple vs =>
  simp only [ZeD,XD] at hx;obtain ⟨us,h1,h2,h3⟩:=h;refine ⟨us,h1,h2,fun i c u hc hu=>?_⟩;have hcx:=hx c (Xm hc);have h4:=h3 i c u hc hu
  cases c with
  | agg cs => exact ZlU hcx (show Rep w lim _ u from h4)
  | val y => exact Zc2 rfl (show Rep w lim _ u from h4)
  | _ => cases hcx
 | _ => cases hx
theorem Zin {P:Program} {w:World} {lim:Lm} {e:TypeId} {xs:List (List AV)} {v:Value} {b0:Nat} (h:Jv P w lim Xb e xs v (Xa b0)) (hnm:Zm P e=Xe) (hext:Ext w lim w (Za9 lim b0 (xs.length*P.cellsOf e))) :
  Jv P w (Za9 lim b0 (xs.length*P.cellsOf e)) Xe e xs v (Xa b0):=by
 rcases h.noMap hnm with ⟨ws,g1,g2,g3,g4,g5,g6⟩ | ⟨_,h,_⟩
 ·refine .inl ⟨ws,g1,g2,fun b hb=>?_,g4,g5,fun j z u hz hu=>(g6 j z u hz hu).mono hext⟩;have hbb:b0=b:=XT hb;subst hbb;rw [if_neg (by simp),g1.1];exact if_pos rfl
 ·cases h
theorem ZmR {x:AV} (h:ZeD x=Xb) (k:Nat):Jg x k=Xc:=by
 have key:∀ (cs:List AV) (k:Nat),(∀ c∈cs,∀ e xs,c≠.own Xb e xs)→(match cs[k]? with | some (.own Xb e xs)=>Xa (e,xs) | _=>Xc)=Xc:=fun cs k hc=>by
  split
  ·rename_i e xs hx;exact (hc _ (Xm hx) e xs rfl).elim
  ·rfl
 have flat:∀ cs:List AV,cs.all ZaI=Xb→∀ c∈cs,∀ e xs,c≠.own Xb e xs:=fun cs h c hc e xs he=>by
  rw [XD] at h;have:=h c hc;rw [he] at this
  cases this
 cases x with
 | box cs => cases k with | zero => rfl | succ k => exact key cs k (flat cs h)
 | gbox cs => cases k with | zero => rfl | succ k => exact key cs k (flat cs h)
 | tuple vs =>
  cases k with
  | zero => rfl
  | succ k =>
   refine key vs k fun c hc e xs he=>?_;simp only [ZeD,XD] at h;have:=h c hc;rw [he] at this
   cases this
 | val _ => cases k <;> rfl
 | dead => cases k <;> rfl
 | agg _ => cases k <;> rfl
 | _ => cases h
theorem JN.borrow {P:Program} {f:FuncId} {args:List AV} {res:AV} {outs:List AV} (h:JN P f args res outs) (hf:∀ i,ZeD (ZB (outs++[res]) i)=Xb) {w:World} {lim:Lm} {X:Nat→Nat→Option Nat} {cargs:List Value} {b0 N:Nat}
  (hb0:b0 < w.heap.size) (hl0:lim b0=0) (hX0:∀ i k,X i k≠Xa b0) (hlen:cargs.length+args.countP AV.isG≤args.length)
  (hrel:∀ i,ZS P w (Za9 lim b0 N) X (ZB args) i (ZB args i) (cargs.getD i undef)) (hdist:ZmH X) (hsize:∀ i k b,X i k=Xa b→b < w.heap.size) (hfar:∀ i,args.length≤i→∀ k,X i k=Xc) :
  Calls P f cargs.toArray w fun e w'=>∃ v lim' X',e = .returned v∧K7 w lim w' lim' (fun b=>∃ i k,X i k=Xa b) (args.any AV.isSto)∧outs.length=args.length∧
   (∀ i,ZS P w' lim' X' (ZB (outs++[res])) i (ZB (outs++[res]) i) (Zaz args.length cargs v i))∧ZmH X'∧
   (∀ i k b,X' i k=Xa b→b < w'.heap.size∧((∃ i k,X i k=Xa b)∨w.heap.size≤b))∧(∀ i,(ZB (outs++[res]) i).isG=Xb→(ZB args i).isG=Xb∧X' i 0=X i 0)∧VS P outs∧ZsC P w' lim' X' res args.length:=by
 refine (h.2.2 w (Za9 lim b0 N) X cargs hlen hrel hdist hsize hfar).mono ?_;rintro e w' ⟨v,lim',X',he,hst,hol,hr,hd,hin,hgh,hnl,hnr⟩
 have hne:∀ i k b,X' i k=Xa b→b≠b0:=by
  intro i k b hb hbb;subst hbb;rcases (hin i k b hb).2 with ⟨i',k',h1⟩ | h1
  ·exact hX0 i' k' h1
  ·omega
 have hk0:=hst.blk b0 hb0 fun ⟨i,k,hb⟩=>hX0 i k hb;refine ⟨v,⟨fun b=>if b=b0 then 0 else lim' b,lim'.t⟩,X',he,⟨hst.os,hst.tape,hst.output,hst.size,hst.frz,fun b hb hn=>?_,⟨fun b hb=>?_,hst.ext.t⟩,hst.t⟩,hol,fun i=>?_,hd,hin,hgh,hnl,fun k e1 xs1 b m1=>?_⟩
 ·obtain ⟨h1,h2⟩:=hst.blk b hb hn;refine ⟨h1,?_⟩;by_cases hbb:b=b0
  ·subst hbb;show (if b=b then 0 else lim' b)=lim b;rw [if_pos rfl,hl0]
  ·show (if b=b0 then 0 else lim' b)=lim b;rw [if_neg hbb,h2];exact if_neg hbb
 ·by_cases hbb:b=b0
  ·subst hbb;refine ⟨by rw [hl0];exact X5 _,fun o u ho _=>by rw [hl0] at ho;omega⟩
  ·obtain ⟨h1,h2⟩:=hst.ext b hb;have h3:Za9 lim b0 N b=lim b:=if_neg hbb;rw [h3] at h1 h2;exact ⟨by show lim b≤if b=b0 then 0 else lim' b;rw [if_neg hbb];exact h1,h2⟩
 ·exact Zot (hf i) (fun b hb=>if_neg (hne i 0 b hb)) (hr i)
 ·have hres:ZB (outs++[res]) outs.length=res:=by simp [ZB]
  have hfl:=hf outs.length;rw [hres] at hfl;rw [ZmR hfl] at m1
  cases m1
def mkB (gh:Bool) (cs:List AV):AV:=match gh with | true=>.gbox cs | false=>.box cs
inductive AK where
 | imm (x : AV)
 | own (t : Nat) (x : Bool) (e : TypeId) (xs : List (List AV))
 | box (d : Nat) (fr to : Bool) (cs : List AV)
 | clo (g : FuncId) (ds gs : List Nat)
 | ref (t d q j : Nat)
 | pad
 | sto (d : Nat) (rows : List (List AV))
def AK.av:AK→AV
 | .imm x => x
 | .own _ x e xs => .own x e xs
 | .box _ _ to cs => mkB to cs
 | .clo g _ gs => .clo g gs
 | .ref _ _ q j => .mref j q
 | .pad => .dead
 | .sto _ rows => .store rows
def AK.slot:AK→Option Nat
 | .imm _ => Xc
 | .own t _ _ _ => Xa t
 | .box d _ _ _ => Xa d
 | .clo _ _ _ => Xc
 | .ref t _ _ _ => Xa t
 | .pad => Xc
 | .sto d _ => Xa d
def Zrc (x:AV):Prop:=(∃ v,x = .val v)∨(∃ cs,x = .agg cs)∨(∃ f s xs,x = .slice f s xs)∨ZP x=Xb
inductive KU where
 | op (x : Operand)
 | cap (d : Nat)
 | obj (j : Nat)
 | ghost
 | pad
def ZxL (P:Program) (σ:Nat→AV) (x:Operand) (y:AV):Prop:=∃ d q e xs,(Zo P σ x = .mref d q∧∀ t e' ys,x = .tmp t→σ t≠.own Xb e' ys)∧Zy (σ d) q=Xa (e,xs)∧(P.cellsOf e≠0∧Zm P e=Xe)∧y = .slice Xe (P.cellsOf e) xs
def AK.ok (P:Program) (σ:Nat→AV):KU→AK→Prop
 | .op x, .imm y => (Zo P σ x = y ∧ Zrc y) ∨ ZxL P σ x y
 | .op x, .own t b e xs => x = .tmp t ∧ σ t = .own b e xs
 | .op x, .box d fr to cs => Zo P σ x = .ptr d 0 ∧ σ d = .box cs ∧ fr = Xe ∧ to = Xe
 | .op x, .clo g ds _ => Zo P σ x = .clo g ds
 | .op x, .ref t d q _ => x = .tmp t ∧ σ t = .mref d q
 | .cap d', .box d fr to cs => d' = d ∧ σ d = mkB fr cs ∧ to = Xe
 | .ghost, .box d fr to cs => σ d = mkB fr cs ∧ to = Xb
 | .pad, .pad => True
 | .ghost, .sto d rows => σ d = .store rows
 | .obj j, .imm y => y = .oref j 0
 | _, _ => False
def reB (fr to:Bool) (o:AV):AV:=
 match to,o with
 | true, .gbox cs => mkB fr cs
 | false, .box cs => mkB fr cs
 | _, _ => .dead
theorem Zvn (fr to:Bool) (cs:List AV):reB fr to (mkB to cs)=mkB fr cs:=by cases to<;>rfl
theorem Zhv (a b:Bool) (cs:List AV) (q:Nat):Zy (mkB a cs) q=Zy (mkB b cs) q:=by cases a<;>cases b<;>cases q<;>rfl
theorem Zg8 (gh:Bool) (cs:List AV):(mkB gh cs).isG=gh:=by cases gh<;>rfl
theorem Ztp (gh:Bool) (cs:List AV):(mkB gh cs).isB=Xb:=by cases gh<;>rfl
def Zbw:List AK→List AV→List (Nat×AV)
 | .own t _ _ _ :: aZ, _ :: os => (t, .gone) :: Zbw aZ os
 | .box d fr to _ :: aZ, o :: os => (d, reB fr to o) :: Zbw aZ os
 | .imm _ :: aZ, _ :: os => Zbw aZ os
 | .clo _ _ _ :: aZ, _ :: os => Zbw aZ os
 | .ref t _ _ _ :: aZ, _ :: os => (t, .dead) :: Zbw aZ os
 | .pad :: aZ, _ :: os => Zbw aZ os
 | .sto d _ :: aZ, o :: os => (d, o) :: Zbw aZ os
 | _, _ => []
theorem ZT:∀ (aZ:List AK) (os:List AV) (σ:Nat→AV) (d:Nat),(∀ a∈aZ,a.slot≠Xa d)→JG σ (Zbw aZ os) d=σ d
 | [], os, σ, d, _ => by cases os <;> rfl
 | a :: aZ, [], σ, d, _ => by cases a <;> rfl
 | .imm _ :: aZ, o :: os, σ, d, h => ZT aZ os σ d fun a ha => h a (by simp [ha])
 | .clo _ _ _ :: aZ, o :: os, σ, d, h => ZT aZ os σ d fun a ha => h a (by simp [ha])
 | .pad :: aZ, o :: os, σ, d, h => ZT aZ os σ d fun a ha => h a (by simp [ha])
 | .ref t x e xs :: aZ, o :: os, σ, d, h => by
  show JG (upd σ t .dead) (Zbw aZ os) d=σ d;rw [ZT aZ os _ d fun a ha=>h a (by simp [ha])];exact Ze σ _ fun hd=>h (.ref t x e xs) (by simp) (by rw [hd];rfl)
 | .own t x e xs :: aZ, o :: os, σ, d, h => by
  show JG (upd σ t .gone) (Zbw aZ os) d=σ d;rw [ZT aZ os _ d fun a ha=>h a (by simp [ha])];exact Ze σ _ fun hd=>h (.own t x e xs) (by simp) (by rw [hd];rfl)
 | .box t fr to cs :: aZ, o :: os, σ, d, h => by
  show JG (upd σ t (reB fr to o)) (Zbw aZ os) d=σ d;rw [ZT aZ os _ d fun a ha=>h a (by simp [ha])];exact Ze σ _ fun hd=>h (.box t fr to cs) (by simp) (by rw [hd];rfl)
 | .sto t rows :: aZ, o :: os, σ, d, h => by
  show JG (upd σ t o) (Zbw aZ os) d=σ d;rw [ZT aZ os _ d fun a ha=>h a (by simp [ha])];exact Ze σ _ fun hd=>h (.sto t rows) (by simp) (by rw [hd];rfl)
theorem JO:∀ (aZ:List AK) (os:List AV) (σ:Nat→AV) (i:Nat) (a:AK) (o:AV) (d:Nat),aZ.length=os.length→(aZ.filterMap AK.slot).Nodup→aZ[i]? = Xa a→os[i]? = Xa o→a.slot=Xa d→
  JG σ (Zbw aZ os) d=match a with | .own _ _ _ _=>.gone | .box _ fr to _=>reB fr to o | .ref _ _ _ _=>.dead | _=>o
 | [], os, σ, i, a, o, d, _, _, ha, _, _ => by simp at ha
 | b :: aZ, [], σ, i, a, o, d, hl, _, _, _, _ => by simp at hl
 | b :: aZ, p :: os, σ, 0, a, o, d, hl, hnd, ha, ho, hd => by
  simp only [XB,Xf] at ha ho;subst ha;subst ho
  have hno:∀ a∈aZ,a.slot≠Xa d:=by
   intro a ha hs;rw [Us,hd] at hnd;exact (Wa.1 hnd).1 (U2.2 ⟨a,ha,hs⟩)
  cases b with
  | imm x => simp [AK.slot] at hd
  | clo g ds gs => simp [AK.slot] at hd
  | pad => simp [AK.slot] at hd
  | own t x e xs =>
   simp only [AK.slot,Xf] at hd;subst hd;show JG (upd σ t .gone) (Zbw aZ os) t = .gone;rw [ZT aZ os _ t hno,ZI]
  | ref t x e xs =>
   simp only [AK.slot,Xf] at hd;subst hd;show JG (upd σ t .dead) (Zbw aZ os) t = .dead;rw [ZT aZ os _ t hno,ZI]
  | box t fr to cs =>
   simp only [AK.slot,Xf] at hd;subst hd;show JG (upd σ t (reB fr to p)) (Zbw aZ os) t=reB fr to p;rw [ZT aZ os _ t hno,ZI]
  | sto t rows =>
   simp only [AK.slot,Xf] at hd;subst hd;show JG (upd σ t p) (Zbw aZ os) t=p;rw [ZT aZ os _ t hno,ZI]
 | b :: aZ, p :: os, σ, i + 1, a, o, d, hl, hnd, ha, ho, hd => by
  have hl':aZ.length=os.length:=by simpa using hl
  have ha':aZ[i]? = Xa a:=by simpa using ha
  have ho':os[i]? = Xa o:=by simpa using ho
  cases b with
  | imm x => exact JO aZ os σ i a o d hl' (by simpa [Us, AK.slot] using hnd) ha' ho' hd
  | clo g ds gs => exact JO aZ os σ i a o d hl' (by simpa [Us, AK.slot] using hnd) ha' ho' hd
  | pad => exact JO aZ os σ i a o d hl' (by simpa [Us, AK.slot] using hnd) ha' ho' hd
  | ref t x e xs =>
   rw [Us] at hnd;exact JO aZ os (upd σ t .dead) i a o d hl' (Wa.1 hnd).2 ha' ho' hd
  | own t x e xs =>
   rw [Us] at hnd;exact JO aZ os (upd σ t .gone) i a o d hl' (Wa.1 hnd).2 ha' ho' hd
  | box t fr to cs =>
   rw [Us] at hnd;exact JO aZ os (upd σ t (reB fr to p)) i a o d hl' (Wa.1 hnd).2 ha' ho' hd
  | sto t rows =>
   rw [Us] at hnd;exact JO aZ os (upd σ t p) i a o d hl' (Wa.1 hnd).2 ha' ho' hd
theorem ZlK:∀ (aZ:List AK),(aZ.filterMap AK.slot).Nodup→∀ (i j:Nat) (a b:AK) (d:Nat),aZ[i]? = Xa a→aZ[j]? = Xa b→a.slot=Xa d→b.slot=Xa d→i=j
 | [], _, i, j, a, b, d, ha, _, _, _ => by simp at ha
 | x :: aZ, hnd, i, j, a, b, d, ha, hb, hda, hdb => by
  have htail:(aZ.filterMap AK.slot).Nodup:=by
   rw [Us] at hnd;split at hnd
   ·exact hnd
   ·exact (Wa.1 hnd).2
  have hhead:∀ d,x.slot=Xa d→∀ a∈aZ,a.slot≠Xa d:=by
   intro d hx a ha hs;rw [Us,hx] at hnd;exact (Wa.1 hnd).1 (U2.2 ⟨a,ha,hs⟩)
  cases i with
  | zero =>
   cases j with
   | zero => rfl
   | succ j =>
    simp only [XB,Xf] at ha;subst ha;exact (hhead d hda b (Xm (by simpa using hb)) hdb).elim
  | succ i =>
   cases j with
   | zero =>
    simp only [XB,Xf] at hb;subst hb;exact (hhead d hdb a (Xm (by simpa using ha)) hda).elim
   | succ j => rw [ZlK aZ htail i j a b d (by simpa using ha) (by simpa using hb) hda hdb]
def ZbO (X:Nat→Nat→Option Nat) (aZ:List AK):Nat→Nat→Option Nat:=fun i k=>
 match aZ[i]? with
 | some (.own t _ _ _) => if k = 0 then X t 0 else Xc
 | some (.box d _ _ _) => X d k
 | some (.sto d _) => X d k
 | _ => Xc
def Zek:List AK→Nat→Nat→Option (Nat×AK)
 | [], _, _ => Xc
 | a :: aZ, d, n => if a.slot = Xa d then Xa (n, a) else Zek aZ d (n + 1)
theorem Zfi:∀ (aZ:List AK) (d n m:Nat) (a:AK),Zek aZ d n=Xa (m,a)→∃ i,m=n+i∧aZ[i]? = Xa a∧a.slot=Xa d
 | [], _, _, _, _, h => by cases h
 | b :: aZ, d, n, m, a, h => by
  unfold Zek at h;split at h
  ·rename_i hs;simp only [Xf,Xt] at h;obtain ⟨rfl,rfl⟩:=h;exact ⟨0,rfl,rfl,hs⟩
  ·obtain ⟨i,h1,h2,h3⟩:=Zfi aZ d (n+1) m a h;exact ⟨i+1,by omega,by simpa using h2,h3⟩
theorem ZeY:∀ (aZ:List AK) (d n:Nat),Zek aZ d n=Xc→∀ a∈aZ,a.slot≠Xa d
 | [], _, _, _, a, ha => by simp at ha
 | b :: aZ, d, n, h, a, ha => by
  unfold Zek at h;split at h
  ·cases h
  ·rename_i hs;rcases Xq.1 ha with rfl | ha
   ·exact hs
   ·exact ZeY aZ d (n+1) h a ha
def XaA (X X':Nat→Nat→Option Nat) (aZ:List AK):Nat→Nat→Option Nat:=fun d k=>
 match Zek aZ d 0 with
 | some (i, .box _ _ _ _) => X' i k
 | some (i, .sto _ _) => X' i k
 | some _ => Xc
 | none => X d k
def Zir (x:AV):Prop:=Zrc x∨(∃ b e xs,x = .own b e xs)∨(∃ vs,x = .tuple vs)∨(∃ cs,x = .aggo cs)∨∃ cs,x = .box cs
theorem ZmD {P:Program} {w:World} {lim:Lm} {X X':Nat→Nat→Option Nat} {σ σ':Nat→AV} {d d':Nat} {x:AV} {v:Value} (hx:Zir x) (h:ZS P w lim X σ d x v) (hX:X' d'=X d):ZS P w lim X' σ' d' x v:=by
 rcases hx with (⟨u,rfl⟩ | ⟨cs,rfl⟩ | ⟨f,s,xs,rfl⟩ | hc) | ⟨b,e,xs,rfl⟩ | ⟨vs,rfl⟩ | ⟨cs,rfl⟩ | ⟨cs,rfl⟩
 ·exact h
 ·exact h
 ·exact h
 ·rcases YB hc with ⟨_,_,rfl⟩ | ⟨_,_,_,rfl⟩ | ⟨_,rfl⟩ | ⟨_,_,rfl⟩ <;> exact h
 ·show Jv P w lim b e xs v (X' d' 0);rw [hX];exact h
 ·obtain ⟨us,h1,h2,h3⟩:=h;refine ⟨us,h1,h2,?_⟩;rw [hX];exact h3
 ·obtain ⟨us,h1,h2,h4,h3⟩:=h;refine ⟨us,h1,h2,h4,?_⟩;rw [hX];exact h3
 ·show Z0 P w lim (X' d') cs v;rw [hX];exact h
theorem ZnT {P:Program} {w:World} {lim:Lm} {X X':Nat→Nat→Option Nat} {σ σ':Nat→AV} {d d':Nat} {x:AV} {v:Value} (hx:Zrc x) (h:ZS P w lim X σ d x v):ZS P w lim X' σ' d' x v:=by
 rcases hx with ⟨u,rfl⟩ | ⟨cs,rfl⟩ | ⟨f,s,xs,rfl⟩ | hc
 ·exact h
 ·exact h
 ·exact h
 ·rcases YB hc with ⟨_,_,rfl⟩ | ⟨_,_,_,rfl⟩ | ⟨_,rfl⟩ | ⟨_,_,rfl⟩ <;> exact h
def AK.okV (P:Program) (bor:Nat→Nat→Prop) (w:World) (lim:Lm) (X:Nat→Nat→Option Nat) (σ:Nat→AV) (tm:Array Value) (v:Value):AK→Prop
 | .imm y => (ZS P w lim X σ 0 y v ∧ Zrc y) ∨ ∃ d q e xs, Zy (σ d) q = Xa (e, xs) ∧ (P.cellsOf e ≠ 0 ∧ Zm P e = Xe) ∧ y = .slice Xe (P.cellsOf e) xs ∧ Zcx P w (X d q) e xs.length v ∧ bor d q
 | .own t x e xs => σ t = .own x e xs ∧ v = tm.getD t undef
 | .box d fr to cs => σ d = mkB fr cs ∧ ∃ b, X d 0 = Xa b ∧ Z0 P w lim (X d) cs (.pointer (Xa ⟨b, 0, Xc⟩)) ∧ (fr = Xe → tm.getD d undef = .pointer (Xa ⟨b, 0, Xc⟩)) ∧ (to = Xe → v = .pointer (Xa ⟨b, 0, Xc⟩))
 | .clo g ds _ => ZS P w lim X σ 0 (.clo g ds) v
 | .ref t d q _ => σ t = .mref d q ∧ v = tm.getD t undef
 | .pad => True
 | .sto d rows => σ d = .store rows
def Zon (aks:List AK):Prop:=∀ (i:Nat) (g:FuncId) (ds gs:List Nat),aks[i]? = Xa (.clo g ds gs)→gs.length=ds.length∧
 ∀ (k d j:Nat),ds[k]? = Xa d→gs[k]? = Xa j→∃ fr cs,aks[j]? = Xa (.box d fr Xb cs)
def Zm3 (aks:List AK):Prop:=∀ (i t d q j:Nat),aks[i]? = Xa (.ref t d q j)→∃ fr cs,aks[j]? = Xa (.box d fr Xb cs)
theorem KC {P:Program} {w:World} {lim:Lm} {X:Nat→Option Nat} {cs:List AV} {v:Value} (h:Z0 P w lim X cs v):∃ b,X 0=Xa b∧v = .pointer (Xa ⟨b,0,Xc⟩):=by
 obtain ⟨b,_,_,h1,h2,_⟩:=h;exact ⟨b,h1,h2⟩
theorem Zl6 {c:Ctx} {σ:Nat→AV} {tm:Array Value} {w:World} {lim:Lm} {X:Nat→Nat→Option Nat} (h:Sim c σ tm w lim X) {d:Nat} {fr:Bool} {cs:List AV} (hd:σ d=mkB fr cs) :
  ∃ b,X d 0=Xa b∧Z0 c.P w lim (X d) cs (.pointer (Xa ⟨b,0,Xc⟩))∧(fr=Xe→tm.getD d undef = .pointer (Xa ⟨b,0,Xc⟩)):=by
 have hr:=h.rel d;rw [hd] at hr
 cases fr with
 | false =>
  have hp:=(show Z0 c.P w lim (X d) cs (tm.getD d undef) from hr);obtain ⟨b,h1,h2⟩:=KC hp;exact ⟨b,h1,by rw [← h2];exact hp,fun _=>h2⟩
 | true =>
  obtain ⟨v,hp⟩:=hr;obtain ⟨b,h1,h2⟩:=KC hp;exact ⟨b,h1,by rw [← h2];exact hp,fun h=>by cases h⟩
theorem Zo3 {T:Odr} (Bd Bq:Nat) (bp:List Nat) {P:Program} {o:Oper} {σ:Nat→AV} {cl:Call} {f:FuncId} {cps:List KU} {tail:List KU} {aks:List AK} {res:AV} {outs:List AV} (ho:o.op = .call cl)
  (hcl:(cl.callee = .value (.func f)∧cps = [])∨∃ t,cl.callee = .value (.tmp t)∧((∃ ds,σ t = .clo f ds∧cps=ds.map KU.cap)∨∃ js,σ t = .fnc f js∧js≠[]∧cps=js.map KU.obj))
  (hlen:(cl.args.toList.map KU.op++cps++tail).length=aks.length) (hargs:∀ (i:Nat) (x:KU) (a:AK),(cl.args.toList.map KU.op++cps++tail)[i]? = Xa x→aks[i]? = Xa a→a.ok P σ x)
  (htail:∀ x∈tail,x = .pad∨x = .ghost) (hcnt:cl.args.toList.length+cps.length+(aks.map AK.av).countP AV.isG≤aks.length) (hclo:Zon aks) (hrf:Zm3 aks) (hnd:(aks.filterMap AK.slot).Nodup)
  (hol:outs.length=aks.length) (hout:∀ (i d:Nat) (fr to:Bool) (cs:List AV) (y:AV),aks[i]? = Xa (.box d fr to cs)→outs[i]? = Xa y→∃ cs',y=mkB to cs') (hso:∀ (i d:Nat) (rows:List (List AV)) (y:AV),aks[i]? = Xa (.sto d rows)→outs[i]? = Xa y→y.isSto=Xb) (hres:Zir res) (hrm:∀ e xs,res = .own Xb e xs→Mv P e xs)
  (hex:∀ (i t:Nat) (e:TypeId) (xs:List (List AV)),aks[i]? = Xa (.own t Xb e xs)→Yr T σ t [])
  (hbx:∀ (i d:Nat) (fr to:Bool) (cs:List AV),aks[i]? = Xa (.box d fr to cs)→Zdg cs∨Yr T σ d []∨∀ σ',T.rel σ σ'→∀ i k,JB (σ' i) d k→∃ a∈aks,a.slot=Xa i)
  (hB:∀ (i:Nat) (x:Operand),cl.args.toList[i]? = Xa x→(∃ z,aks[i]? = Xa (.imm z))→∀ d q,Zo P σ x = .mref d q→(∀ t e' ys,x = .tmp t→σ t≠.own Xb e' ys)→d=Bd∧q=Bq∧Bd∈bp∧(∀ a∈aks,a.slot≠Xa Bd)∧∀ i,ZeD (ZB (outs++[res]) i)=Xb)
  (hcall:JN P f (aks.map AK.av) res outs):Ku T P o σ res (Zbw aks outs) (aks.filterMap AK.slot++bp):=by
 intro c hc σ' tm w lim X hid hag hT hsim next Q hn;subst hc;obtain ⟨⟨fn,hfn,hname,hbody⟩,hcs,hc2⟩:=hcall;have hslot:∀ a∈aks,∀ d,a.slot=Xa d→σ' d=σ d:=fun a ha d hd=>hag d (Xv.2 (.inl (Xv.2 (.inl (U2.2 ⟨a,ha,hd⟩)))))
 have hops:∀ x∈cl.args.toList,x∈o.op.operands:=by
  intro x hx;rw [ho];rcases hcl with ⟨h,_⟩ | ⟨t,h,_⟩ <;> simp only [Op.operands,Call.operands,h]<;>simp [Tk.1 hx]
 have hg:∀ x∈cl.args.toList,Zo c.P σ' x=Zo c.P σ x:=fun x hx=>ZJ fun t ht=>hid t (Zu (hops x hx) ht)
 -- the blocks of what the function value has captured
 obtain ⟨bs,hbl,hcps,hbs,hbo,hcv⟩:∃ bs:List Nat,bs.length=cps.length∧(∀ x∈cps,(∃ d,x = .cap d)∨∃ j,x = .obj j)∧(∀ (i d b:Nat),cps[i]? = Xa (.cap d)→bs[i]? = Xa b→X d 0=Xa b)∧
   (∀ (i j b:Nat),cps[i]? = Xa (.obj j)→bs[i]? = Xa b→0 < j∧∃ cap ty,lim.t j=Xa (b,cap,ty))∧
   (resolve (Act.eval ⟨tm,[]⟩) cl o.type).run c.P w = .ok { target:=.fn (.func f) (bs.map fun b=>Value.pointer (Xa ⟨b,0,Xc⟩)).toArray,args:=cl.args.map (Act.eval ⟨tm,[]⟩) } w:=by
  rcases hcl with ⟨h,rfl⟩ | ⟨t,h,⟨ds,ht,rfl⟩ | ⟨js,ht,hne,rfl⟩⟩
  ·refine ⟨[],rfl,by simp,by simp,by simp,?_⟩;have hev:Act.eval ⟨tm,[]⟩ (.func f) = .func (.func f) #[] #[]:=rfl;simp [resolve,h,hev,Deferred.ofValue]
  ·have hr:=hsim.rel t;have htu:σ' t=σ t:=(hid t (Zu (x:=.tmp t) (by rw [ho];simp [Op.operands,Call.operands,h]) rfl)).eq fun cs e=>by rw [ht] at e;cases e
   rw [htu,ht] at hr;obtain ⟨bs,h1,h2,h3⟩:=hr;refine ⟨bs,by rw [h2,Xr],fun x hx=>?_,fun i d b hd hb=>(h3 i d b ?_ hb).1,fun i j b hd _=>?_,?_⟩
   ·obtain ⟨d,_,rfl⟩:=Xj.1 hx;exact .inl ⟨d,rfl⟩
   ·rw [Xl] at hd;obtain ⟨d',h4,h5⟩:=X6.1 hd
    cases h5;exact h4
   ·rw [Xl] at hd;obtain ⟨d',h4,h5⟩:=X6.1 hd
    cases h5
   have hev:Act.eval ⟨tm,[]⟩ (.tmp t)=tm.getD t undef:=rfl;simp [resolve,h,hev,h1,Deferred.ofValue]
  ·have hr:=hsim.rel t;have htu:σ' t=σ t:=(hid t (Zu (x:=.tmp t) (by rw [ho];simp [Op.operands,Call.operands,h]) rfl)).eq fun cs e=>by rw [ht] at e;cases e
   rw [htu,ht] at hr;have hr':Rep w lim (.fnc f js) (tm.getD t undef):=hr;have hev:Act.eval ⟨tm,[]⟩ (.tmp t)=tm.getD t undef:=rfl;generalize tm.getD t undef=v0 at hr' hev
   cases hr' with
   | fncN => exact (hne rfl).elim
   | @fnc _ _ bs hl h3 =>
    refine ⟨bs,by rw [hl,Xr],fun x hx=>?_,fun i d b hd hb=>?_,fun i j b hd hb=>h3 i j b ?_ hb,?_⟩
    ·obtain ⟨d,_,rfl⟩:=Xj.1 hx;exact .inr ⟨d,rfl⟩
    ·rw [Xl] at hd;obtain ⟨d',h4,h5⟩:=X6.1 hd
     cases h5
    ·rw [Xl] at hd;obtain ⟨d',h4,h5⟩:=X6.1 hd
     cases h5;exact h4
    simp [resolve,h,hev,Deferred.ofValue]
 obtain ⟨cargs,hcargs⟩:∃ cargs:List Value,cargs=cl.args.toList.map (Act.eval ⟨tm,[]⟩)++bs.map (fun b=>Value.pointer (Xa ⟨b,0,Xc⟩)):=⟨_,rfl⟩;have hcl2:cargs.length=cl.args.toList.length+cps.length:=by rw [hcargs];simp [hbl]
 have hok:∀ (i:Nat) (a:AK),aks[i]? = Xa a→a.okV c.P (fun d q=>d=Bd∧q=Bq∧(∀ a∈aks,a.slot≠Xa Bd)∧∀ i,ZeD (ZB (outs++[res]) i)=Xb) w lim X σ' tm (cargs.getD i undef):=by
  intro i a ha;have hlt:i < (cl.args.toList.map KU.op++cps++tail).length:=by rw [hlen];exact (Xk.1 ha).1
  have hsrc:=Xp hlt;have h:=hargs i _ a hsrc ha;generalize hx:(cl.args.toList.map KU.op++cps++tail)[i]=x at h hsrc;have hsl:∀ d,a.slot=Xa d→σ' d=σ d:=fun d hd=>hslot a (Xm ha) d hd
  have hbox:∀ d fr to cs,a = .box d fr to cs→σ d=mkB fr cs→σ' d=mkB fr cs∧∃ b,X d 0=Xa b∧Z0 c.P w lim (X d) cs (.pointer (Xa ⟨b,0,Xc⟩))∧(fr=Xe→tm.getD d undef = .pointer (Xa ⟨b,0,Xc⟩)):=by
   intro d fr to cs he h1;have h3:σ' d=mkB fr cs:=(hsl d (by rw [he];rfl)).trans h1;exact ⟨h3,Zl6 hsim h3⟩
  cases x with
  | op y =>
   -- an operand
   have hi:i < cl.args.toList.length:=by
    rcases XG i cl.args.toList.length with h0 | h0
    ·exact h0
    ·rw [Xo,Xz (by simpa using h0)] at hsrc;rcases Xv.1 (Xm hsrc) with hm | hm
     ·rcases hcps _ hm with ⟨_,e⟩ | ⟨_,e⟩ <;> cases e
     ·rcases htail _ hm with e | e<;>cases e
   have hy:cl.args.toList[i]? = Xa y:=by
    rw [Xo,Xx (by simpa using hi),Xl] at hsrc;rw [Xp hi] at hsrc ⊢;simpa using hsrc
   have hv:cargs.getD i undef=Act.eval ⟨tm,[]⟩ y:=by
    rw [hcargs,UT,Xx (by simpa using hi),Xl,hy];rfl
   have hgy:=hg y (Xm hy);rw [hv]
   cases a with
   | imm z =>
    have hrl:=(K0 hsim y 0).2;rw [hgy] at hrl;rcases h with h | ⟨d,q,e,xs,m1,m2,m3,m4⟩
    ·rw [h.1] at hrl;exact .inl ⟨hrl,h.2⟩
    ·rw [m1.1] at hrl;obtain ⟨b1,b2,b3,b4,b5⟩:=hB i y hy ⟨z,ha⟩ d q m1.1 m1.2;subst b1;have hsd:σ' d=σ d:=hag d (Xv.2 (.inl (Xv.2 (.inr b3))));obtain ⟨e',xs',n1,n2⟩:=hrl;rw [hsd,m2] at n1;simp only [Xf,Xt] at n1;obtain ⟨rfl,rfl⟩:=n1;exact .inr ⟨d,q,e,xs,by rw [hsd];exact m2,m3,m4,n2,rfl,b2,b4,b5⟩
   | own t x e xs =>
    obtain ⟨rfl,ht⟩:=h;exact ⟨(hsl t rfl).trans ht,rfl⟩
   | box d fr to cs =>
    obtain ⟨h1,h2,rfl,rfl⟩:=h;obtain ⟨k1,b,k2,k3,k4⟩:=hbox d Xe Xe cs rfl h2;refine ⟨k1,b,k2,k3,k4,fun _=>?_⟩;have h4:=(K0 hsim y 0).2;rw [hgy,h1] at h4;obtain ⟨b',_,m1,_,m3⟩:=h4;rw [k2] at m1
    cases m1
    exact m3
   | clo g ds gs =>
    have:=(K0 hsim y 0).2;rw [hgy,show Zo c.P σ y = .clo g ds from h] at this;exact this
   | ref t d q j =>
    obtain ⟨rfl,ht⟩:=h;exact ⟨(hsl t rfl).trans ht,rfl⟩
   | pad => cases h
   | sto _ _ => cases h
  | obj j =>
   have hi:cl.args.toList.length≤i∧i-cl.args.toList.length < cps.length:=by
    rcases XG i cl.args.toList.length with h0 | h0
    ·rw [Xo,Xx (by simpa using h0)] at hsrc;obtain ⟨_,_,e⟩:=Xj.1 (Xm hsrc);cases e
    ·refine ⟨h0,?_⟩;rcases XG (i-cl.args.toList.length) cps.length with h1 | h1
     ·exact h1
     ·rw [Xz (by rw [Xu,Xr];omega)] at hsrc;rcases htail _ (Xm hsrc) with e | e<;>cases e
   have hd:cps[i-cl.args.toList.length]? = Xa (.obj j):=by
    rw [Xo,Xz (by simpa using hi.1),Xx (by simpa using hi.2),Xr] at hsrc;exact hsrc
   cases a with
   | imm y =>
    have h':y = .oref j 0:=h;subst h';have hb:=Xp (l:=bs) (i:=i-cl.args.toList.length) (by rw [hbl];exact hi.2);obtain ⟨hj,cap,ty,ht⟩:=hbo _ _ _ hd hb;rw [hcargs,UT,Xz (by simpa using hi.1),Xr,Xl,hb];exact .inl ⟨.oref hj ht,.inr (.inr (.inr rfl))⟩
   | box _ _ _ _ => cases h
   | own _ _ _ => cases h
   | clo _ _ _ => cases h
   | ref _ _ _ _ => cases h
   | pad => cases h
   | sto _ _ => cases h
  | cap d' =>
   have hi:cl.args.toList.length≤i∧i-cl.args.toList.length < cps.length:=by
    rcases XG i cl.args.toList.length with h0 | h0
    ·rw [Xo,Xx (by simpa using h0)] at hsrc;obtain ⟨_,_,e⟩:=Xj.1 (Xm hsrc);cases e
    ·refine ⟨h0,?_⟩;rcases XG (i-cl.args.toList.length) cps.length with h1 | h1
     ·exact h1
     ·rw [Xz (by rw [Xu,Xr];omega)] at hsrc;rcases htail _ (Xm hsrc) with e | e<;>cases e
   have hd:cps[i-cl.args.toList.length]? = Xa (.cap d'):=by
    rw [Xo,Xz (by simpa using hi.1),Xx (by simpa using hi.2),Xr] at hsrc;exact hsrc
   cases a with
   | box d fr to cs =>
    obtain ⟨rfl,h1,rfl⟩:=h;obtain ⟨k1,b,k2,k3,k4⟩:=hbox d' fr Xe cs rfl h1;refine ⟨k1,b,k2,k3,k4,fun _=>?_⟩;have hb:=Xp (l:=bs) (i:=i-cl.args.toList.length) (by rw [hbl];exact hi.2);have hbb:=hbs _ _ _ hd hb;rw [k2] at hbb;rw [hcargs,UT,Xz (by simpa using hi.1),Xr,Xl,hb,← XT hbb];rfl
   | imm _ => cases h
   | own _ _ _ => cases h
   | clo _ _ _ => cases h
   | ref _ _ _ _ => cases h
   | pad => cases h
   | sto _ _ => cases h
  | ghost =>
   cases a with
   | sto d rows => exact (hsl d rfl).trans h
   | box d fr to cs =>
    obtain ⟨h1,rfl⟩:=h;obtain ⟨k1,b,k2,k3,k4⟩:=hbox d fr Xb cs rfl h1;exact ⟨k1,b,k2,k3,k4,fun h=>by cases h⟩
   | imm _ => cases h
   | own _ _ _ => cases h
   | clo _ _ _ => cases h
   | ref _ _ _ _ => cases h
   | pad => cases h
  | pad =>
   cases a with
   | pad => trivial
   | imm _ => cases h
   | own _ _ _ => cases h
   | clo _ _ _ => cases h
   | ref _ _ _ _ => cases h
   | box _ _ _ _ => cases h
   | sto _ _ => cases h
 have hget:∀ (i:Nat) (a:AK),aks[i]? = Xa a→ZB (aks.map AK.av) i=a.av:=fun i a ha=>by simp [ZB,ha]
 -- the arguments as the callee sees them
 have hrel0:∀ i,(∀ z,aks[i]?≠Xa (.imm z))→ZS c.P w lim (ZbO X aks) (ZB (aks.map AK.av)) i (ZB (aks.map AK.av) i) (cargs.getD i undef):=by
  intro i hni
  cases ha:aks[i]? with
  | none =>
   have:ZB (aks.map AK.av) i = .dead:=by simp [ZB,ha]
   rw [this];trivial
  | some a =>
   rw [hget i a ha];have h:=hok i a ha
   cases a with
   | imm y => exact (hni y ha).elim
   | own t x e xs =>
    obtain ⟨ht,hv⟩:=h;have:=hsim.rel t;rw [ht] at this;have hX:ZbO X aks i 0=X t 0:=by simp [ZbO,ha]
    show Jv c.P w lim x e xs _ (ZbO X aks i 0);rw [hX,hv];exact this
   | box d fr to cs =>
    obtain ⟨h1,b,h2,h3,h4,h5⟩:=h;have hX:ZbO X aks i=X d:=by funext k;simp [ZbO,ha]
    cases to with
    | false =>
     show Z0 c.P w lim (ZbO X aks i) cs _;rw [hX,h5 rfl];exact h3
    | true =>
     exact ⟨.pointer (Xa ⟨b,0,Xc⟩),by rw [hX];exact h3⟩
   | clo g es gs =>
    obtain ⟨l1,l2⟩:=hclo i g es gs ha;obtain ⟨bs',m1,m2,m3⟩:=h;refine ⟨bs',m1,by rw [m2,l1],fun k j b hj hb=>?_⟩;have hlt:k < es.length:=by rw [← m2];exact (Xk.1 hb).1
    obtain ⟨fr,cs,hbx⟩:=l2 k _ j (Xp hlt) hj;have hX:ZbO X aks j 0=X es[k] 0:=by simp [ZbO,hbx]
    exact ⟨by rw [hX];exact (m3 k _ b (Xp hlt) hb).1,by rw [hget j _ hbx];exact Ztp Xb cs⟩
   | ref t d q j =>
    obtain ⟨ht,hv⟩:=h;have hr:=hsim.rel t;rw [ht] at hr;obtain ⟨e,xs,n1,n2⟩:=hr;obtain ⟨fr,cs,hb⟩:=hrf i t d q j ha;have hX:ZbO X aks j q=X d q:=by simp [ZbO,hb]
    rw [(hok j _ hb).1,Zhv fr Xb] at n1;exact ⟨e,xs,by rw [hget j _ hb];exact n1,by rw [hX,hv];exact n2⟩
   | pad => trivial
   | sto d rows =>
    have hr:=hsim.rel d;rw [show σ' d = .store rows from h] at hr;have hX:ZbO X aks i=X d:=by funext k;simp [ZbO,ha]
    show JC c.P w lim (ZbO X aks i) rows;rw [hX];exact hr
 have hXof:∀ i k b,ZbO X aks i k=Xa b→∃ a d,aks[i]? = Xa a∧a.slot=Xa d∧X d k=Xa b:=by
  intro i k b h;unfold ZbO at h;split at h
  ·rename_i t x e xs ha;split at h
   ·rename_i hk;subst hk;exact ⟨_,t,ha,rfl,h⟩
   ·cases h
  ·rename_i d fr to cs ha;exact ⟨_,d,ha,rfl,h⟩
  ·rename_i d rows ha;exact ⟨_,d,ha,rfl,h⟩
  ·cases h
 have hdist:ZmH (ZbO X aks):=by
  intro i k i' k' b h h';obtain ⟨a,d,h1,h2,h3⟩:=hXof i k b h;obtain ⟨a',d',h1',h2',h3'⟩:=hXof i' k' b h';obtain ⟨e1,e2⟩:=hsim.dist d k d' k' b h3 h3';subst e1;exact ⟨ZlK aks hnd i i' a a' d h1 h1' h2 h2',e2⟩
 have hsize:∀ i k b,ZbO X aks i k=Xa b→b < w.heap.size:=by
  intro i k b h;obtain ⟨a,d,h1,h2,h3⟩:=hXof i k b h;exact (hsim.ours d k b h3).1
 have hxfar:∀ i,(aks.map AK.av).length≤i→∀ k,ZbO X aks i k=Xc:=fun i hi k=>by
  rw [Xr] at hi;have:aks[i]? = Xc:=Wl hi;simp only [ZbO,this]
 have hlc:cargs.length+(aks.map AK.av).countP AV.isG≤(aks.map AK.av).length:=by rw [hcl2,Xr];exact hcnt
 have hcalls:Calls c.P f cargs.toArray w fun e w'=>∃ v lim' X',e = .returned v∧K7 w lim w' lim' (fun b=>∃ i k,ZbO X aks i k=Xa b) ((aks.map AK.av).any AV.isSto)∧outs.length=(aks.map AK.av).length∧
   (∀ i,ZS c.P w' lim' X' (ZB (outs++[res])) i (ZB (outs++[res]) i) (Zaz (aks.map AK.av).length cargs v i))∧ZmH X'∧
   (∀ i k b,X' i k=Xa b→b < w'.heap.size∧((∃ i k,ZbO X aks i k=Xa b)∨w.heap.size≤b))∧(∀ i,(ZB (outs++[res]) i).isG=Xb→(ZB (aks.map AK.av) i).isG=Xb∧X' i 0=ZbO X aks i 0)∧VS c.P outs∧ZsC c.P w' lim' X' res (aks.map AK.av).length:=by
  by_cases hbor:∃ e xs b0,Zy (σ' Bd) Bq=Xa (e,xs)∧X Bd Bq=Xa b0∧(∀ a∈aks,a.slot≠Xa Bd)∧(c.P.cellsOf e≠0∧Zm c.P e=Xe)∧∀ i,ZeD (ZB (outs++[res]) i)=Xb
  ·obtain ⟨e,xs,b0,p1,p2,p3,p4,p5⟩:=hbor;obtain ⟨v0,ho⟩:=WY hsim p1;rw [p2] at ho;obtain ⟨arr,cap,r1,r2,r3,r4,r5,r6,r7,r8,r9⟩:=Va ho (.inl p4.2)
   have hX0:∀ i k,ZbO X aks i k≠Xa b0:=by
    intro i k hb;obtain ⟨a,d,q1,q2,q3⟩:=hXof i k b0 hb;obtain ⟨e1,_⟩:=hsim.dist d k Bd Bq b0 q3 p2;subst e1;exact p3 a (Xm q1) q2
   have hext:Ext w lim w (Za9 lim b0 (xs.length*c.P.cellsOf e)):=by
    refine ⟨fun b _=>?_,fun _ _ h=>h⟩;refine ⟨?_,fun _ _ _ hu=>hu⟩;unfold Za9;dsimp only;split
    ·rename_i hbb;rw [hbb,r3];exact X5 _
    ·exact Xy _
   refine JN.borrow ⟨⟨fn,hfn,hname,hbody⟩,hcs,hc2⟩ p5 (N:=xs.length*c.P.cellsOf e) (hsim.ours Bd Bq b0 p2).1 r3 hX0 hlc (fun i=>?_) hdist hsize hxfar;by_cases him:∃ z,aks[i]? = Xa (.imm z)
   ·obtain ⟨z,ha⟩:=him;rw [hget i _ ha];rcases hok i _ ha with h | ⟨d,q,e',xs',n1,n2,n3,n4,n5,n6,_⟩
    ·obtain ⟨h1,h2⟩:=h;rcases h2 with ⟨u,rfl⟩ | ⟨cs,rfl⟩ | ⟨f,s,xs,rfl⟩ | hc
     ·exact Rep.mono hext (show Rep w lim _ _ from h1)
     ·exact Rep.mono hext (show Rep w lim _ _ from h1)
     ·exact Rep.mono hext (show Rep w lim _ _ from h1)
     ·rcases YB hc with ⟨_,_,rfl⟩ | ⟨_,_,_,rfl⟩ | ⟨_,rfl⟩ | ⟨_,_,rfl⟩ <;> exact Rep.mono hext (show Rep w lim _ _ from h1)
    ·subst n5;subst n6;subst n3;rw [p1] at n1;simp only [Xf,Xt] at n1;obtain ⟨rfl,rfl⟩:=n1;rw [← Zam n2.2] at r2 r6;rcases n4 with ⟨k1,_⟩ | ⟨b,arr',cap',k1,k2,k3,k4⟩ | ⟨k0,_⟩ | ⟨k0,_⟩
     ·rw [p2] at k1;cases k1
     ·rw [p2] at k1;have hbb:b0=b:=XT k1;subst hbb;rw [r2] at k2;simp only [Xf,Obj.cells.injEq,and_true] at k2;subst k2;have hcap:cap'=cap:=Tx (by have:=p4.1;rw [Zam n2.2];omega) (k3.symm.trans r6);subst hcap;rw [k4,← r1];exact Jv.rep (Zin ho p4.2 hext) Xe rfl
     ·rw [n2.2] at k0;cases k0
     ·rw [n2.2] at k0;cases k0
   ·exact (hrel0 i fun z hz=>him ⟨z,hz⟩).mono hext (fun k b hb=>⟨rfl,if_neg fun (hbb:b=b0)=>hX0 i k (by rw [← hbb];exact hb)⟩) (fun d' k b _ _=>.of rfl) fun _ _=>rfl
  ·refine hc2 w lim (ZbO X aks) cargs hlc (fun i=>?_) hdist hsize hxfar;by_cases him:∃ z,aks[i]? = Xa (.imm z)
   ·obtain ⟨z,ha⟩:=him;rw [hget i _ ha];rcases hok i _ ha with h | ⟨d,q,e',xs',n1,n2,n3,n4,n5,n6,n7,n8⟩
    ·exact ZnT h.2 h.1
    ·subst n5;subst n6;subst n3;rcases n4 with ⟨_,k2,k3⟩ | ⟨b,arr,cap,k2,_⟩ | ⟨k0,_⟩ | ⟨k0,_⟩
     ·have:xs' = []:=X7 k2;subst this;rcases k3 with k3 | ⟨a,k3⟩
      ·show Rep w lim _ _;rw [k3];exact .sliceN
      ·show Rep w lim _ _;rw [k3];exact .sliceE fun h=>by cases h
     ·exact (hbor ⟨e',xs',b,n1,k2,n7,n2,n8⟩).elim
     ·rw [n2.2] at k0;cases k0
     ·rw [n2.2] at k0;cases k0
   ·exact hrel0 i fun z hz=>him ⟨z,hz⟩
 have hrun:(execOp (Act.eval ⟨tm,[]⟩) o).run c.P w = .ok (.enter f cargs.toArray) w:=by
  have harr:cl.args.map (Act.eval ⟨tm,[]⟩)++(bs.map fun b=>Value.pointer (Xa ⟨b,0,Xc⟩)).toArray=cargs.toArray:=by
   apply XK.1;rw [hcargs];simp
  simp only [execOp,ho,Sem.run_bind,hcv,Result.andThen_ok,invoke,callFunc,run_program,hfn,hname,hbody];rw [harr];rfl
 unfold Oper.wp;rw [hrun,Oper.upon_enter];refine hcalls.mono ?_;rintro e w' ⟨v,lim',X',rfl,hstep,hl',hrel',hdist',hours',hgh',hnl',hnr'⟩;rw [Xr] at hnr';have hal:aks.length < ngN:=by have:=hcs;rwa [Xr] at this
 refine hn v w' ?_
 -- what the slots are behind the call
 have hpass:∀ d,(∃ i a,Zek aks d 0=Xa (i,a)∧aks[i]? = Xa a∧a.slot=Xa d)∨(Zek aks d 0=Xc∧∀ a∈aks,a.slot≠Xa d):=by
  intro d
  cases hf:Zek aks d 0 with
  | none => exact .inr ⟨rfl, ZeY aks d 0 hf⟩
  | some p =>
   obtain ⟨m,a⟩:=p;obtain ⟨i,h1,h2,h3⟩:=Zfi aks d 0 m a hf;rw [XH] at h1;subst h1;exact .inl ⟨m,a,rfl,h2,h3⟩
 have houtAt:∀ i a,aks[i]? = Xa a→∃ y,outs[i]? = Xa y:=fun i a ha=>⟨_,Xp (by rw [hol];exact (Xk.1 ha).1)⟩
 have hret:∀ i,i < aks.length→Zaz (aks.map AK.av).length cargs v i=cargs.getD i undef:=by
  intro i hi;unfold Zaz;rw [if_neg (by rw [Xr];omega)]
 have hboxOut:∀ i d fr to cs,aks[i]? = Xa (.box d fr to cs)→∃ cs' b,outs[i]? = Xa (mkB to cs')∧Z0 c.P w' lim' (X' i) cs' (.pointer (Xa ⟨b,0,Xc⟩))∧(fr=Xe→tm.getD d undef = .pointer (Xa ⟨b,0,Xc⟩))∧X' i 0=Xa b∧X d 0=Xa b∧
   JG σ' (Zbw aks outs) d=mkB fr cs':=by
  intro i d fr to cs ha;obtain ⟨y,hy⟩:=houtAt i _ ha;obtain ⟨cs',rfl⟩:=hout i d fr to cs y ha hy;have h1:=hrel' i;have hlt:i < outs.length:=(Xk.1 hy).1
  have ho1:ZB (outs++[res]) i=mkB to cs':=by
   simp only [ZB];rw [Xx hlt,hy];rfl
  obtain ⟨k1,b,k2,k3,k4,k5⟩:=hok i _ ha;rw [ho1,hret i (by rw [← hol];exact hlt)] at h1;have hup:=JO aks outs σ' i (.box d fr to cs) (mkB to cs') d hol.symm hnd ha hy rfl;simp only [Zvn] at hup
  have hpl:Z0 c.P w' lim' (X' i) cs' (.pointer (Xa ⟨b,0,Xc⟩))∧X' i 0=Xa b:=by
   cases to with
   | false =>
    rw [k5 rfl] at h1;have hp:Z0 c.P w' lim' (X' i) cs' (.pointer (Xa ⟨b,0,Xc⟩)):=h1;obtain ⟨b',m1,m2⟩:=KC hp;simp only [Value.pointer.injEq,Xf,Addr.mk.injEq,and_true] at m2;exact ⟨hp,by rw [m1,m2]⟩
   | true =>
    obtain ⟨v',hp⟩:=(show ∃ v',Z0 c.P w' lim' (X' i) cs' v' from h1);have hgx:=(hgh' i (by rw [ho1];rfl)).2;have hX:ZbO X aks i 0=X d 0:=by simp [ZbO,ha]
    obtain ⟨b',m1,m2⟩:=KC hp;rw [hgx,hX,k2] at m1
    cases m1
    exact ⟨by rw [← m2];exact hp,by rw [hgx,hX,k2]⟩
  exact ⟨cs',b,hy,hpl.1,k4,hpl.2,k2,hup⟩
 have hstoOut:∀ (i d:Nat) (rows:List (List AV)),aks[i]? = Xa (AK.sto d rows)→∃ rows':List (List AV),outs[i]? = Xa (.store rows')∧JG σ' (Zbw aks outs) d = .store rows'∧JC c.P w' lim' (X' i) rows':=by
  intro i d rows ha;obtain ⟨y,hy⟩:=houtAt i _ ha;have h1:=hrel' i;have hys:=hso i d rows y ha hy
  cases y with
  | store rows' =>
   have hlt:i < outs.length:=(Xk.1 hy).1
   have ho1:ZB (outs++[res]) i = .store rows':=by
    simp only [ZB];rw [Xx hlt,hy];rfl
   rw [ho1] at h1;exact ⟨rows',hy,JO aks outs σ' i (.sto d rows) (.store rows') d hol.symm hnd ha hy rfl,h1⟩
  | _ => cases hys
 have hsta:(aks.map AK.av).any AV.isSto=Xb→∃ (i d:Nat) (rows:List (List AV)),aks[i]? = Xa (AK.sto d rows):=by
  intro h;rw [Ud] at h;obtain ⟨x,hx,hs⟩:=h;obtain ⟨a,ha,rfl⟩:=Xj.1 hx;obtain ⟨i,hi⟩:=XO.1 ha
  cases a with
  | sto d rows => exact ⟨i, d, rows, hi⟩
  | box d fr to cs => cases to <;> cases hs
  | imm y =>
   have hq:=hok i _ hi;rcases hq with ⟨_,hq⟩ | ⟨_,_,_,_,_,_,rfl,_⟩
   ·rcases hq with ⟨u,rfl⟩ | ⟨cs,rfl⟩ | ⟨f,s,xs,rfl⟩ | hc
    ·cases hs
    ·cases hs
    ·cases hs
    ·rcases YB hc with ⟨_,_,rfl⟩ | ⟨_,_,_,rfl⟩ | ⟨_,rfl⟩ | ⟨_,_,rfl⟩ <;> cases hs
   ·cases hs
  | _ => cases hs
 have hnst:∀ d,(∀ a∈aks,a.slot≠Xa d)→(σ' d).isSto=Xb→(aks.map AK.av).any AV.isSto=Xe:=by
  intro d hno hd
  cases hany:(aks.map AK.av).any AV.isSto with
  | false => rfl
  | true =>
   obtain ⟨i,d',rows,hi⟩:=hsta hany;have:=hsim.stf.2 d d' hd (by rw [show σ' d' = .store rows from hok i _ hi];rfl);subst this;exact (hno _ (Xm hi) rfl).elim
 have hstc:c.st=Xe→(aks.map AK.av).any AV.isSto=Xe:=by
  intro hc0
  cases hany:(aks.map AK.av).any AV.isSto with
  | false => rfl
  | true =>
   obtain ⟨i,d',rows,hi⟩:=hsta hany;have:=hsim.stf.1 hc0 d';rw [show σ' d' = .store rows from hok i _ hi] at this
   cases this
 have hafter:Sim c (JG σ' (Zbw aks outs)) tm w' lim' (XaA X X' aks):=by
  have hSours:∀ b,(∃ i k,ZbO X aks i k=Xa b)→c.A b∨c.w0.heap.size≤b:=by
   rintro b ⟨i,k,h⟩;obtain ⟨a,d,_,_,h3⟩:=hXof i k b h;exact (hsim.ours d k b h3).2
  have hXa:∀ d k b,XaA X X' aks d k=Xa b→(∃ i a,Zek aks d 0=Xa (i,a)∧(aks[i]? = Xa a∧a.slot=Xa d)∧X' i k=Xa b)∨(Zek aks d 0=Xc∧(∀ a∈aks,a.slot≠Xa d)∧X d k=Xa b):=by
   intro d k b h;unfold XaA at h;rcases hpass d with ⟨i,a,h1,h2,h3⟩ | ⟨h1,h2⟩
   ·rw [h1] at h
    cases a with
    | imm y => simp at h
    | own t x e xs => simp at h
    | clo _ _ _ => simp at h
    | ref _ _ _ _ => simp at h
    | pad => simp at h
    | box d' fr to cs =>
     simp only [AK.slot,Xf] at h3;subst h3;exact .inl ⟨i,_,h1,⟨h2,rfl⟩,h⟩
    | sto d' rows =>
     simp only [AK.slot,Xf] at h3;subst h3;exact .inl ⟨i,_,h1,⟨h2,rfl⟩,h⟩
   ·rw [h1] at h;exact .inr ⟨h1,h2,h⟩
  have hfarA:∀ d,ngN≤d→∀ a∈aks,a.slot≠Xa d:=by
   intro d hd a ha hs;have h0:=hsim.far d hd;obtain ⟨j,hj⟩:=XO.1 ha;have hk:=hok j a hj
   cases a with
   | imm y => simp [AK.slot] at hs
   | clo _ _ _ => simp [AK.slot] at hs
   | pad => simp [AK.slot] at hs
   | ref t x e xs =>
    simp only [AK.slot,Xf] at hs;subst hs;rw [hk.1] at h0
    cases h0
   | own t x e xs =>
    simp only [AK.slot,Xf] at hs;subst hs;rw [hk.1] at h0
    cases h0
   | box t fr to cs =>
    simp only [AK.slot,Xf] at hs;subst hs;rw [hk.1] at h0
    cases fr<;>cases h0
   | sto t rows =>
    simp only [AK.slot,Xf] at hs;subst hs;rw [show σ' t = .store rows from hk] at h0
    cases h0
  have hXold:∀ d k b,(∀ a∈aks,a.slot≠Xa d)→X d k=Xa b→¬ ∃ i k,ZbO X aks i k=Xa b:=by
   rintro d k b hno hb ⟨i,k',h⟩;obtain ⟨a,d',h1,h2,h3⟩:=hXof i k' b h;obtain ⟨e1,_⟩:=hsim.dist d k d' k' b hb h3;subst e1;exact hno a (Xm h1) h2
  -- a box of the caller's stays one
  have hkeep:∀ d' gh cs,σ' d'=mkB gh cs→(∃ cs',JG σ' (Zbw aks outs) d'=mkB gh cs'∧((∀ a∈aks,a.slot≠Xa d')→cs'=cs))∧XaA X X' aks d' 0=X d' 0:=by
   intro d' gh cs hd';rcases hpass d' with ⟨i,a,k1,k2,k3⟩ | ⟨k1,k2⟩
   ·cases a with
    | imm y => simp [AK.slot] at k3
    | clo _ _ _ => simp [AK.slot] at k3
    | pad => simp [AK.slot] at k3
    | own t x e xs =>
     simp only [AK.slot,Xf] at k3;subst k3;have:=hok i _ k2;rw [this.1] at hd'
     cases gh<;>cases hd'
    | ref t x e xs =>
     simp only [AK.slot,Xf] at k3;subst k3;have:=hok i _ k2;rw [this.1] at hd'
     cases gh<;>cases hd'
    | box d'' fr to cs'' =>
     simp only [AK.slot,Xf] at k3;subst k3;obtain ⟨cs',b,g1,g2,g3,g4,g5,g6⟩:=hboxOut i d'' fr to cs'' k2;have hkk:=(hok i _ k2).1;rw [hd'] at hkk;have hfg:gh=fr:=by have:=congrArg AV.isG hkk;rwa [Zg8,Zg8] at this
     subst hfg;refine ⟨⟨cs',g6,fun hno=>(hno _ (Xm k2) rfl).elim⟩,?_⟩;simp only [XaA,k1];rw [g4,g5]
    | sto t rows =>
     simp only [AK.slot,Xf] at k3;subst k3;rw [show σ' t = .store rows from hok i _ k2] at hd'
     cases gh<;>cases hd'
   ·exact ⟨⟨cs,by rw [ZT aks outs σ' d' k2];exact hd',fun _=>rfl⟩,by simp only [XaA,k1]⟩
  have hkb:∀ d' cs,σ' d' = .box cs→(∃ cs',JG σ' (Zbw aks outs) d' = .box cs')∧XaA X X' aks d' 0=X d' 0:=by
   intro d' cs hd';obtain ⟨⟨cs',h1,_⟩,h3⟩:=hkeep d' Xe cs hd';exact ⟨⟨cs',h1⟩,h3⟩
  -- what is referred to is not handed over
  have href:∀ i d' k,JB (σ' i) d' k→(∀ a∈aks,a.slot≠Xa i)→∀ a∈aks,a.slot≠Xa d':=by
   intro i d' k hr hni a ha hs;obtain ⟨p,hp⟩:=WK hsim hr;obtain ⟨j,hj⟩:=XO.1 ha;have hk:=hok j a hj
   cases a with
   | imm y => simp [AK.slot] at hs
   | clo _ _ _ => simp [AK.slot] at hs
   | pad => simp [AK.slot] at hs
   | sto t rows =>
    simp only [AK.slot,Xf] at hs;subst hs;rw [show σ' t = .store rows from hk] at hp
    cases k<;>cases hp
   | ref t x e xs =>
    simp only [AK.slot,Xf] at hs;subst hs;rw [hk.1] at hp;simp [Zy] at hp
   | own t x e xs =>
    simp only [AK.slot,Xf] at hs;subst hs
    cases x with
    | false => rw [hk.1] at hp; simp [Zy] at hp
    | true =>
     obtain ⟨h1,h2⟩:=(hex j t e xs hj).all hT;by_cases hit:i=t
     ·subst hit;rw [hk.1] at hr;rcases hr with hr | ⟨_,hr⟩ <;> cases hr
     ·have:=h2 i k hit hr
      cases this
   | box t fr to cs =>
    simp only [AK.slot,Xf] at hs;subst hs;rw [hk.1,Zhv fr Xe] at hp;rcases hbx j t fr to cs hj with hnr | hdr | hdr
    ·cases k with
     | zero => simp [mkB, Zy] at hp
     | succ k =>
      simp only [mkB,Zy] at hp;split at hp
      ·rename_i e xs hx;exact hnr _ (Xm hx) e xs rfl
      ·cases hp
    ·obtain ⟨h1,h2⟩:=hdr.all hT;by_cases hit:i=t
     ·subst hit;rw [hk.1] at hr
      cases fr<;>rcases hr with hr | ⟨_,hr⟩ <;> cases hr
     ·have:=h2 i k hit hr
      cases this
    ·obtain ⟨a,ha',hsa⟩:=hdr σ' hT i k hr;exact hni a ha' hsa
  have hkg:∀ d',(σ' d').isG=Xb→(JG σ' (Zbw aks outs) d').isG=Xb∧XaA X X' aks d' 0=X d' 0:=by
   intro d' hd'
   have hcs:(∃ cs,σ' d'=mkB Xb cs)∨∃ rows,σ' d' = .store rows:=by
    generalize σ' d'=x at hd'
    cases x<;>simp [AV.isG] at hd'
    ·exact .inl ⟨_,rfl⟩
    ·exact .inr ⟨_,rfl⟩
   rcases hcs with ⟨cs,hcs⟩ | ⟨rows,hrows⟩
   ·obtain ⟨⟨cs',h1,_⟩,h3⟩:=hkeep d' Xb cs hcs;exact ⟨by rw [h1];rfl,h3⟩
   ·have hsl:=hsim.rel d';rw [hrows] at hsl;rcases hpass d' with ⟨i,a,k1,k2,k3⟩ | ⟨k1,k2⟩
    ·have hok':=hok i a k2
     cases a with
     | imm y => simp [AK.slot] at k3
     | clo _ _ _ => simp [AK.slot] at k3
     | pad => simp [AK.slot] at k3
     | own t x e xs =>
      simp only [AK.slot,Xf] at k3;subst k3;rw [hok'.1] at hrows
      cases hrows
     | ref t x e xs =>
      simp only [AK.slot,Xf] at k3;subst k3;rw [hok'.1] at hrows
      cases hrows
     | box t fr to cs =>
      simp only [AK.slot,Xf] at k3;subst k3;rw [hok'.1] at hrows
      cases fr<;>cases hrows
     | sto t rows0 =>
      simp only [AK.slot,Xf] at k3;subst k3;obtain ⟨rows',_,g6,g7⟩:=hstoOut i t rows0 k2;refine ⟨by rw [g6];rfl,?_⟩;simp only [XaA,k1];rw [g7.2.1];exact hsl.2.1.symm
    ·refine ⟨by rw [ZT aks outs σ' d' k2,hrows];rfl,?_⟩;simp only [XaA,k1]
  refine ⟨fun d=>?_,hsim.size,fun d hd=>?_,fun d hd=>?_,fun d k d' k' b h h'=>?_,fun d k b h=>?_,hsim.frm.cstep hstep hSours hstc,fun d v hv=>?_,fun d e xs hdo=>?_,fun d b hb=>?_,hsim.ntN,fun d hd=>?_,fun d k e xs b m1 m2 m3=>?_,fun b m b' hb=>?_,?_⟩
  ·rcases hpass d with ⟨i,a,h1,h2,h3⟩ | ⟨h1,h2⟩
   ·cases a with
    | imm y => simp [AK.slot] at h3
    | clo _ _ _ => simp [AK.slot] at h3
    | pad => simp [AK.slot] at h3
    | own t x e xs =>
     simp only [AK.slot,Xf] at h3;subst h3;obtain ⟨y,hy⟩:=houtAt i _ h2;rw [JO aks outs σ' i (.own t x e xs) y t hol.symm hnd h2 hy rfl];trivial
    | ref t x e xs =>
     simp only [AK.slot,Xf] at h3;subst h3;obtain ⟨y,hy⟩:=houtAt i _ h2;rw [JO aks outs σ' i (.ref t x e xs) y t hol.symm hnd h2 hy rfl];trivial
    | box d' fr to cs =>
     simp only [AK.slot,Xf] at h3;subst h3;obtain ⟨cs',b,g1,g2,g3,g4,g5,g6⟩:=hboxOut i d' fr to cs h2;rw [g6];have hrow:XaA X X' aks d'=X' i:=by funext k;simp only [XaA,h1]
     cases fr with
     | false =>
      show Z0 c.P w' lim' (XaA X X' aks d') cs' _;rw [hrow,g3 rfl];exact g2
     | true => exact ⟨_, by rw [hrow]; exact g2⟩
    | sto d' rows =>
     simp only [AK.slot,Xf] at h3;subst h3;obtain ⟨rows',_,g6,g7⟩:=hstoOut i d' rows h2;rw [g6];have hrow:XaA X X' aks d'=X' i:=by funext k;simp only [XaA,h1]
     show JC c.P w' lim' (XaA X X' aks d') rows';rw [hrow];exact g7
   ·rw [ZT aks outs σ' d h2]
    have hm:=(hsim.rel d).mono hstep.ext (fun k b hb=>hstep.blk b (hsim.ours d k b hb).1 (hXold d k b h2 hb)) (fun d' k b he hb=>
     .of (hstep.blk b (hsim.ours d' k b hb).1 (hXold d' k b (href d d' k (.inl he) h2) hb)).1) fun rows hrows=>hstep.t (hnst d h2 (by rw [hrows];rfl))
    refine hm.chg (by funext k;simp only [XaA,h1]) hkb hkg fun d' k hr=>?_;have hno:=href d d' k hr h2;refine ⟨by rw [ZT aks outs σ' d' hno];exact Vm.refl _ _,?_⟩;rcases hpass d' with ⟨i,a,_,k2,k3⟩ | ⟨k1,_⟩
    ·exact (hno a (Xm k2) k3).elim
    ·simp only [XaA,k1]
  ·rcases hsim.out d hd with h | h
   ·left
    have hno:∀ a∈aks,a.slot≠Xa d:=by
     intro a ha hs;obtain ⟨i,hi⟩:=XO.1 ha;have hok':=hok i a hi
     cases a with
     | imm y => simp [AK.slot] at hs
     | clo _ _ _ => simp [AK.slot] at hs
     | pad => simp [AK.slot] at hs
     | own t x e xs =>
      simp only [AK.slot,Xf] at hs;subst hs;rw [hok'.1] at h
      cases h
     | ref t x e xs =>
      simp only [AK.slot,Xf] at hs;subst hs;rw [hok'.1] at h
      cases h
     | box t fr to cs =>
      simp only [AK.slot,Xf] at hs;subst hs;rw [hok'.1] at h
      cases fr<;>cases h
     | sto t rows =>
      simp only [AK.slot,Xf] at hs;subst hs;rw [show σ' t = .store rows from hok'] at h
      cases h
    rw [ZT aks outs σ' d hno];exact h
   ·exact .inr (hkg d h).1
  ·rcases hpass d with ⟨i,a,h1,h2,h3⟩ | ⟨h1,h2⟩
   ·cases a with
    | imm y => simp [AK.slot] at h3
    | clo _ _ _ => simp [AK.slot] at h3
    | pad => simp [AK.slot] at h3
    | own t x e xs =>
     simp only [AK.slot,Xf] at h3;subst h3;obtain ⟨y,hy⟩:=houtAt i _ h2;rw [JO aks outs σ' i (.own t x e xs) y t hol.symm hnd h2 hy rfl] at hd
     cases hd
    | ref t x e xs =>
     simp only [AK.slot,Xf] at h3;subst h3;obtain ⟨y,hy⟩:=houtAt i _ h2;rw [JO aks outs σ' i (.ref t x e xs) y t hol.symm hnd h2 hy rfl] at hd
     cases hd
    | box d' fr to cs =>
     simp only [AK.slot,Xf] at h3;subst h3;obtain ⟨cs',b,g1,g2,g3,g4,g5,g6⟩:=hboxOut i d' fr to cs h2;rw [g6,Zg8] at hd;exact hsim.ghost d' (by rw [(hok i _ h2).1,Zg8];exact hd)
    | sto d' rows =>
     simp only [AK.slot,Xf] at h3;subst h3;exact hsim.ghost d' (by rw [show σ' d' = .store rows from hok i _ h2];rfl)
   ·rw [ZT aks outs σ' d h2] at hd;exact hsim.ghost d hd
  ·rcases hXa d k b h with ⟨i,a,g1,g2,g3⟩ | ⟨g1,g2,g3⟩ <;> rcases hXa d' k' b h' with ⟨i',a',g1',g2',g3'⟩ | ⟨g1',g2',g3'⟩
   ·obtain ⟨e1,e2⟩:=hdist' i k i' k' b g3 g3';subst e1;rw [g2.1] at g2';obtain ⟨h1,h2⟩:=g2'
    cases h1
    rw [g2.2] at h2
    cases h2
    exact ⟨rfl,e2⟩
   ·rcases (hours' i k b g3).2 with hS | hS
    ·exact (hXold d' k' b g2' g3' hS).elim
    ·have:=(hsim.ours d' k' b g3').1;omega
   ·rcases (hours' i' k' b g3').2 with hS | hS
    ·exact (hXold d k b g2 g3 hS).elim
    ·have:=(hsim.ours d k b g3).1;omega
   ·exact hsim.dist d k d' k' b g3 g3'
  ·rcases hXa d k b h with ⟨i,a,g1,g2,g3⟩ | ⟨g1,g2,g3⟩
   ·refine ⟨(hours' i k b g3).1,?_⟩;rcases (hours' i k b g3).2 with hS | hS
    ·exact hSours b hS
    ·exact .inr (XI hsim.frm.size hS)
   ·exact ⟨XS (hsim.ours d k b g3).1 hstep.size,(hsim.ours d k b g3).2⟩
  ·obtain ⟨p1,cs,p2⟩:=hsim.pin d v hv;obtain ⟨⟨cs',h1⟩,_⟩:=hkb d cs p2;exact ⟨p1,cs',h1⟩
  ·rcases hpass d with ⟨i,a,h1,h2,h3⟩ | ⟨h1,h2⟩
   ·exfalso
    cases a with
    | imm y => simp [AK.slot] at h3
    | clo _ _ _ => simp [AK.slot] at h3
    | pad => simp [AK.slot] at h3
    | own t x e xs =>
     simp only [AK.slot,Xf] at h3;subst h3;obtain ⟨y,hy⟩:=houtAt i _ h2;rw [JO aks outs σ' i (.own t x e xs) y t hol.symm hnd h2 hy rfl] at hdo
     cases hdo
    | ref t x e xs =>
     simp only [AK.slot,Xf] at h3;subst h3;obtain ⟨y,hy⟩:=houtAt i _ h2;rw [JO aks outs σ' i (.ref t x e xs) y t hol.symm hnd h2 hy rfl] at hdo
     cases hdo
    | box d' fr to cs =>
     simp only [AK.slot,Xf] at h3;subst h3;obtain ⟨cs',b,g1,g2,g3,g4,g5,g6⟩:=hboxOut i d' fr to cs h2;rw [g6] at hdo
     cases fr<;>cases hdo
    | sto d' rows =>
     simp only [AK.slot,Xf] at h3;subst h3;obtain ⟨rows',_,g6,_⟩:=hstoOut i d' rows h2;rw [g6] at hdo
     cases hdo
   ·rw [ZT aks outs σ' d h2] at hdo;rw [show XaA X X' aks d=X d from by funext k;simp only [XaA,h1]];exact (hsim.mp d e xs hdo).mono hstep.ext fun k b hb=>hstep.blk b (hsim.ours d k b hb).1 (hXold d k b h2 hb)
  ·obtain ⟨p1,p2⟩:=hsim.gpin d b hb;obtain ⟨h1,h2⟩:=hkg d p2;exact ⟨h2.trans p1,h1⟩
  ·rw [ZT aks outs σ' d (hfarA d hd)];exact hsim.far d hd
  ·have hfb:=hfarA (ngN+b) (XX _ _)
   have hXfb:XaA X X' aks (ngN+b)=X (ngN+b):=by
    rcases hpass (ngN+b) with ⟨i,a,g1,g2,g3⟩ | ⟨g1,_⟩
    ·exact (hfb a (Xm g2) g3).elim
    ·funext k;simp only [XaA,g1]
   rcases hpass d with ⟨i,a,h1,h2,h3⟩ | ⟨h1,h2⟩
   ·exfalso
    cases a with
    | imm y => simp [AK.slot] at h3
    | clo _ _ _ => simp [AK.slot] at h3
    | pad => simp [AK.slot] at h3
    | own t x e' xs' =>
     simp only [AK.slot,Xf] at h3;subst h3;obtain ⟨y,hy⟩:=houtAt i _ h2;rw [JO aks outs σ' i (.own t x e' xs') y t hol.symm hnd h2 hy rfl] at m1
     cases k<;>cases m1
    | ref t x e' xs' =>
     simp only [AK.slot,Xf] at h3;subst h3;obtain ⟨y,hy⟩:=houtAt i _ h2;rw [JO aks outs σ' i (.ref t x e' xs') y t hol.symm hnd h2 hy rfl] at m1
     cases k<;>cases m1
    | box d' fr to cs =>
     simp only [AK.slot,Xf] at h3;subst h3;obtain ⟨cs',b',g1,g2,g3,g4,g5,g6⟩:=hboxOut i d' fr to cs h2;rw [g6] at m1;have hno:=hnl' i k e xs (by simp only [ZB,g1];cases fr<;>cases to<;>cases k<;>exact m1);rw [hno] at m2
     cases m2
    | sto d' rows =>
     simp only [AK.slot,Xf] at h3;subst h3;obtain ⟨rows',_,g6,_⟩:=hstoOut i d' rows h2;rw [g6] at m1
     cases k<;>cases m1
   ·rw [ZT aks outs σ' d h2] at m1;rw [show XaA X X' aks d k=X d k from by simp only [XaA,h1]] at m3;rw [hXfb];refine (hsim.nst d k e xs b m1 m2 m3).mono hstep.ext (hstep.blk b (hsim.ours d k b m3).1 (hXold d k b h2 m3)).1 fun j b' hb'=>hstep.blk b' (hsim.ours _ j b' hb').1 (hXold _ j b' hfb hb')
  ·have hfb:=hfarA (ngN+b) (XX _ _);rcases hpass (ngN+b) with ⟨i,a,g1,g2,g3⟩ | ⟨g1,_⟩
   ·exact (hfb a (Xm g2) g3).elim
   ·simp only [XaA,g1] at hb;exact XS (hsim.yfr b m b' hb) hstep.size
  ·have hback:∀ d,(JG σ' (Zbw aks outs) d).isSto=Xb→(σ' d).isSto=Xb:=by
    intro d hd;rcases hpass d with ⟨i,a,k1,k2,k3⟩ | ⟨k1,k2⟩
    ·cases a with
     | imm y => simp [AK.slot] at k3
     | clo _ _ _ => simp [AK.slot] at k3
     | pad => simp [AK.slot] at k3
     | own t x e xs =>
      simp only [AK.slot,Xf] at k3;subst k3;obtain ⟨y,hy⟩:=houtAt i _ k2;rw [JO aks outs σ' i (.own t x e xs) y t hol.symm hnd k2 hy rfl] at hd
      cases hd
     | ref t x e xs =>
      simp only [AK.slot,Xf] at k3;subst k3;obtain ⟨y,hy⟩:=houtAt i _ k2;rw [JO aks outs σ' i (.ref t x e xs) y t hol.symm hnd k2 hy rfl] at hd
      cases hd
     | box t fr to cs =>
      simp only [AK.slot,Xf] at k3;subst k3;obtain ⟨cs',b,g1,g2,g3,g4,g5,g6⟩:=hboxOut i t fr to cs k2;rw [g6] at hd
      cases fr<;>cases hd
     | sto t rows =>
      simp only [AK.slot,Xf] at k3;subst k3;rw [show σ' t = .store rows from hok i _ k2];rfl
    ·rw [ZT aks outs σ' d k2] at hd;exact hd
   refine ⟨fun hc0 d=>?_,fun d d' g g'=>hsim.stf.2 d d' (hback d g) (hback d' g')⟩
   cases hd:(JG σ' (Zbw aks outs) d).isSto with
   | false => rfl
   | true =>
    have h1:=hback d hd;rw [hsim.stf.1 hc0 d] at h1
    cases h1
 -- the result
 have hresv:ZS c.P w' lim' X' (ZB (outs++[res])) aks.length res v:=by
  have h1:=hrel' aks.length
  have ho1:ZB (outs++[res]) aks.length=res:=by
   simp only [ZB];rw [Xz (by omega),hol];simp
  have hv:Zaz (aks.map AK.av).length cargs v aks.length=v:=by
   unfold Zaz;rw [if_pos (by rw [Xr])]
  rw [ho1,hv] at h1;exact h1
 have hresg:res.isG=Xe:=by
  rcases hres with (⟨u,rfl⟩ | ⟨cs,rfl⟩ | ⟨f,s,xs,rfl⟩ | hc) | ⟨b,e,xs,rfl⟩ | ⟨vs,rfl⟩ | ⟨cs,rfl⟩ | ⟨cs,rfl⟩
  rotate_left 3
  ·rcases YB hc with ⟨_,_,rfl⟩ | ⟨_,_,_,rfl⟩ | ⟨_,rfl⟩ | ⟨_,_,rfl⟩ <;> rfl
  all_goals rfl
 cases hdst:o.dst with
 | none => exact ⟨lim', _, hafter⟩
 | some d =>
  intro hd hm
  have hfree:∀ m k b,aks.length≤m→X' m k=Xa b→∀ i j,XaA X X' aks i j≠Xa b:=by
   intro m k b hml hk i j hij;unfold XaA at hij;rcases hpass i with ⟨m',a,h1,h2,h3⟩ | ⟨h1,h2⟩
   ·rw [h1] at hij
    cases a with
    | imm y => simp at hij
    | own t x e xs => simp at hij
    | clo _ _ _ => simp at hij
    | ref _ _ _ _ => simp at hij
    | pad => simp at hij
    | box d fr to cs =>
     obtain ⟨e1,_⟩:=hdist' _ _ _ _ b hk hij;have:=(Xk.1 h2).1;omega
    | sto d rows =>
     obtain ⟨e1,_⟩:=hdist' _ _ _ _ b hk hij;have:=(Xk.1 h2).1;omega
   ·rw [h1] at hij;rcases (hours' _ k b hk).2 with ⟨i',k',hS⟩ | hS
    ·obtain ⟨a,d',g1,g2,g3⟩:=hXof i' k' b hS;obtain ⟨e1,_⟩:=hsim.dist i j d' k' b hij g3;subst e1;exact h2 a (Xm g1) g2
    ·have:=(hsim.ours i j b hij).1;omega
  have hown:∀ m k b,X' m k=Xa b→c.A b∨c.w0.heap.size≤b:=by
   intro m k b hk;rcases (hours' _ k b hk).2 with ⟨i,k',hS⟩ | hS
   ·obtain ⟨a,d',_,_,h3⟩:=hXof i k' b hS;exact (hsim.ours d' k' b h3).2
   ·exact .inr (XI hsim.frm.size hS)
  obtain ⟨X2,hX2,hX2f,hX2b,hX2n⟩:∃ X2,Sim c (JG σ' (Zbw aks outs)) tm w' lim' X2∧(∀ d,d < ngN→X2 d=XaA X X' aks d)∧(∀ k b,X' aks.length k=Xa b→X2 (ngN+b)=X' (ngN+b))∧∀ k b,X' aks.length k=Xa b→∀ i j,X2 i j≠Xa b:=by
   classical
   refine ⟨fun d=>if ngN≤d∧∃ k,X' aks.length k=Xa (d-ngN) then X' d else XaA X X' aks d,hafter.graft (fun b=>∃ k,X' aks.length k=Xa b) (fun d hd=>if_neg fun h=>by omega) (fun b hb=>if_neg fun h=>hb (by rw [UI] at h;exact h.2)) (fun b ⟨k,hb⟩=>⟨(hours' _ k b hb).1,hfree _ k b (Xy _) hb⟩) (fun b k b' hb hk=>?_),fun d hd=>if_neg fun h=>by omega,fun k b hb=>if_pos ⟨XX _ _,k,by rw [UI];exact hb⟩,fun k b hb i j hij=>?_⟩
   ·have hcond:∀ b,(∃ k,X' aks.length k=Xa b)→(if ngN≤ngN+b∧∃ k,X' aks.length k=Xa (ngN+b-ngN) then X' (ngN+b) else XaA X X' aks (ngN+b))=X' (ngN+b):=fun b hb=>if_pos ⟨XX _ _,by rw [UI];exact hb⟩;rw [hcond b hb] at hk;refine ⟨(hours' _ k b' hk).1,hown _ k b' hk,fun d j hdj=>(hfree _ k b' (by omega) hk d j hdj).elim,fun b2 k2 hb2 hk2=>?_⟩;rw [hcond b2 hb2] at hk2;obtain ⟨e1,e2⟩:=hdist' _ _ _ _ b' hk2 hk;exact ⟨by omega,e2⟩
   ·have hij':(if ngN≤i∧∃ k,X' aks.length k=Xa (i-ngN) then X' i else XaA X X' aks i) j=Xa b:=hij;split at hij'
    ·rename_i hc;have:=(hdist' _ _ _ _ b hb hij').1;omega
    ·exact hfree _ k b (Xy _) hb i j hij'
  refine ⟨lim',_,hX2.putRow (X' aks.length) (Jh.refl w' lim' (fun _=>False)) (fun _ hs=>hs.elim) hd (tm':=tm.setIfInBounds d v) (by simp) (fun i hi=>Z3 tm d i v hi) (.inl (ZW hm).1) (fun i q hi hr=>(hX2.noRefs (ZW hm).none i q hi hr).elim) ?_ (fun k b hk=>⟨(hours' _ k b hk).1,hown _ k b hk,fun i j _=>hX2n k b hk i j⟩) (fun k k' b hk hk'=>(hdist' _ k _ k' b hk hk').2) hresg (fun e xs he=>.mv (hrm e xs he)) (hns:=fun k e xs b m1 m2 m3=>by rw [hX2b k b m3];exact hnr' k e xs b m1 m2 m3)⟩;rw [J2 tm d v (by rw [hsim.size];exact hd)];exact ZmD hres hresv (Zv _ d _)
theorem ZfV {P:Program} {o:Oper} {σ:Nat→AV} {f:FuncId} {first captured:Array Operand} {ds:List Nat} (ho:o.op = .makeFunc (.func f) first captured) (hf:first.toList = [])
  (hl:captured.toList.length=ds.length) (hc:∀ (i:Nat) (x:Operand) (d:Nat),(captured.toList)[i]? = Xa x→ds[i]? = Xa d→Zo P σ x = .ptr d 0∧∃ cs,σ d = .box cs):Js P o σ (.clo f ds) [] ds:=by
 have hf':first = #[]:=by apply XK.1;rw [hf]
 refine Zq ds rfl fun c hcP σ' tm w lim X hg hfp hsim=>⟨.func (.func f) #[] (captured.map (Act.eval ⟨tm,[]⟩)),?_,?_⟩
 ·simp [execOp,ho,Instr.makeFunc,hf']
 ·have hb:∀ i:Nat,∃ b:Nat,∀ (x:Operand) (d:Nat),(captured.toList)[i]? = Xa x→ds[i]? = Xa d→Act.eval ⟨tm,[]⟩ x = .pointer (Xa ⟨b,0,Xc⟩)∧X d 0=Xa b∧(σ' d).isB=Xb:=by
   intro i
   cases hx:captured.toList[i]? with
   | none => exact ⟨0, fun x d h => by cases h⟩
   | some x =>
    cases hd:ds[i]? with
    | none => exact ⟨0, fun x d _ h => by cases h⟩
    | some d =>
     obtain ⟨h1,cs,h2⟩:=hc i x d hx hd;rw [ho] at hg
     have hv:=Yf hcP hsim h1 (hg x (by
      have:=Xm hx;simp [Op.operands,Tk.1 this]))
     obtain ⟨b,cs',m1,m2,m3⟩:=hv;refine ⟨b,fun y e hy he=>?_⟩
     cases hy
     cases he
     exact ⟨m3,m1,by rw [m2];rfl⟩
  obtain ⟨bf,hbf⟩:=Classical.axiomOfChoice hb;have hat:∀ i,i < ds.length→∃ x,captured.toList[i]? = Xa x:=fun i hi=>⟨_,Xp (by rw [hl];exact hi)⟩;refine ⟨(Ua ds.length).map bf,?_,by simp,fun i d b hd hb=>?_⟩
  ·have:captured.map (Act.eval ⟨tm,[]⟩)=(((Ua ds.length).map bf).map fun b=>Value.pointer (Xa ⟨b,0,Xc⟩)).toArray:=by
    apply XK.1;rw [Array.toList_map];apply Wo;intro i;rw [Xl,Xl,Xl];by_cases hi:i < ds.length
    ·obtain ⟨x,hx⟩:=hat i hi;rw [hx,List.getElem?_range hi];simp only [Xw];exact congrArg Xa (hbf i x _ hx (Xp hi)).1
    ·rw [Wl (by rw [hl];omega),Wl (by simp;omega)];rfl
   rw [this]
  ·have hi:=(Xk.1 hd).1;obtain ⟨x,hx⟩:=hat i hi;rw [Xl,List.getElem?_range hi] at hb;simp only [Xw,Xf] at hb;subst hb;exact ⟨(hbf i x d hx hd).2.1,(hbf i x d hx hd).2.2⟩
def ZM (y:AV) (k:Nat) (b:Bool) (e:TypeId) (xs:List (List AV)):AV:=
 match y,k with
 | .own _ _ _, 0 => .own b e xs
 | .box cs, k + 1 => .box (cs.set k (.own b e xs))
 | y, _ => y
theorem Zax {w:World} {b:Nat} {cur cs:Array Value} {t:TypeId} (hg:w.heap[b]? = Xa (.cells cur t (0,0))) (hs:cs.size=cur.size) (b':Nat):ZbU w (w.setRow b cs) b':=by
 by_cases h:b'=b
 ·subst h;refine ⟨fun arr e h1=>?_,fun es clock h1=>?_⟩
  ·rw [hg] at h1;simp only [Xf,Obj.cells.injEq,and_true] at h1;obtain ⟨rfl,rfl⟩:=h1;exact ⟨cs,setRow_heap w b' cur cs t _ hg,hs⟩
  ·rw [hg] at h1;cases h1
 ·exact .of (setRow_other w b b' cs h)
theorem Sim.setPlace {c:Ctx} {σ:Nat→AV} {tm:Array Value} {w:World} {lim:Lm} {X:Nat→Nat→Option Nat} (h:Sim c σ tm w lim X) {d k b:Nat} {e:TypeId} {xs xs':List (List AV)} {arr arr':Array Value}
  (hp:Zy (σ d) k=Xa (e,xs)) (hng:(σ d).isG=Xe) (hX:X d k=Xa b) (hheap:w.heap[b]? = Xa (.cells arr e (0,0))) (hsz:arr'.size=arr.size) (hl:xs'.length=xs.length) (h1:∀ x∈xs',x.length=c.P.cellsOf e) (h2:∀ x∈xs',∀ z∈x,z.isCell=Xb)
  (hr:∀ (j:Nat) (z:AV) (u:Value),xs'.flatten[j]? = Xa z→arr'[j]? = Xa u→Rep w lim z u) :
  ∃ X',Sim c (upd σ d (ZM (σ d) k Xb e xs')) tm (w.setRow b arr') lim X':=by
 have hnd:Zn c.P e=Xe:=by
  cases hd:Zn c.P e with
  | false => rfl
  | true =>
   obtain ⟨arr2,h3⟩:=h.deepB (Zkm hp) hd b hX;rw [hheap] at h3;simp only [Xf,Obj.cells.injEq,and_true] at h3;have h8:2097152≤e:=by simp only [Zn,Xs,decide_eq_true_eq] at hd;exact hd.1
   have h9:=h3.2;rw [bT,if_pos h8] at h9;exact absurd h9.symm (Nat.ne_of_lt (Nat.sub_lt (XS (by decide) h8) (by decide)))
 have hnew:∀ v,Jv c.P w lim Xb e xs v (Xa b)→Jv c.P (w.setRow b arr') lim Xb e xs' v (Xa b):=by
  intro v ho;obtain ⟨arr0,cap,g1,g2,g3,g4,g5,g6,g7,g8,g9⟩:=Va ho (.inr ⟨hnd,_,_,_,hheap⟩);rw [hheap] at g2;simp only [Xf,Obj.cells.injEq,and_true] at g2;subst g2;have hstep:=K1 (cs:=arr') hheap g3;rw [g1,← hl];exact ZiV (setRow_heap w b arr arr' e _ hheap) g3 (by omega) g5 (by rw [hsz];exact g6) h1 h2 fun j z u hz hu=>(hr j z u hz hu).mono hstep.ext
 have hlim:lim b=0:=by
  obtain ⟨v,ho⟩:=WY h hp;rw [hX] at ho;obtain ⟨_,_,_,_,g3,_⟩:=Va ho (.inr ⟨hnd,_,_,_,hheap⟩);exact g3
 have hstep:=K1 (cs:=arr') hheap hlim;have hrel:=h.rel d;rcases ZK hp with ⟨ho,rfl⟩ | ⟨cs,q,ho,rfl,hq⟩ | ⟨cs,q,ho,rfl,hq⟩
 case inr.inr=>rw [ho] at hng;cases hng
 ·have hdn:d < c.nt:=WE h (by rw [ho];exact fun h=>by cases h) (by rw [ho];rfl);rw [ho] at hrel
  refine ⟨_,h.putRow (hmp:=fun e1 xs1 _=>.cells fun b' hb'=>by rw [hX] at hb';cases hb';exact ⟨_,_,_,setRow_heap w b arr arr' e _ hheap⟩) (hns:=fun k e1 xs1 b' m1 m2 m3=>by
   rw [ho] at m1
   cases k with
   | zero =>
    simp only [ZM,Jg,Xf,Xt] at m1;rw [← m1.1,hnd] at m2
    cases m2
   | succ k => simp [ZM, Jg] at m1) (S := fun b' => b' = b) (X d) hstep (fun b' hb' => ⟨0, by rw [hb']; exact hX⟩) hdn rfl (fun i _ => rfl) (.inl fun cs hcs => by rw [ho] at hcs; cases hcs) (fun i q hi hr => ?_) ?_ (fun k b' hk => ?_) (fun k k' b' hk hk' => (h.dist d k d k' b' hk hk').2) (by rw [ho]; rfl)⟩
  ·refine ⟨fun e' ys hy=>?_,rfl,fun b' _=>Zax hheap hsz b'⟩;rw [ho] at hy ⊢
   cases q with
   | succ q => simp [Zy] at hy
   | zero =>
    simp only [Zy,Xf,Xt] at hy;obtain ⟨rfl,rfl⟩:=hy;exact ⟨xs',rfl,hl⟩
  ·rw [ho];show Jv c.P _ lim Xb e xs' _ (ZcA X d (X d) d 0);rw [Zv,hX];refine hnew _ ?_;rw [← hX];exact hrel
  ·exact ⟨by have:=(h.ours d k b' hk).1;simpa using this,(h.ours d k b' hk).2,fun i j hi hij=>hi (h.dist i j d k b' hij hk).1⟩
 ·have hdn:d < c.nt:=WE h (by rw [ho];exact fun h=>by cases h) (by rw [ho];rfl);rw [ho] at hrel;obtain ⟨b0,arr0,t0,g1,g2,g3,g4,g5,g6,g7⟩:=(show Z0 c.P w lim (X d) cs _ from hrel)
  have hne:b0≠b:=fun e'=>by
   have:=(h.dist d (q+1) d 0 b hX (by rw [← e'];exact g1)).2;omega
  refine ⟨_,h.putRow (hmp:=fun e1 xs1 he=>by rw [ho] at he;simp [ZM] at he) (hns:=fun k e1 xs1 b' m1 m2 m3=>by
   rw [ho] at m1;rcases Ky m1 with ⟨_,m4⟩ | ⟨m4,m5⟩
   ·injection m4 with _ m4;rw [← m4,hnd] at m2
    cases m2
   ·have hng:=h.ntN;refine (h.nst d k e1 xs1 b' (by rw [ho];exact m5) m2 m3).mono hstep.ext (setRow_other w b b' arr' fun e'=>?_) fun j b2 hb2=>hstep.blk b2 (h.ours _ j b2 hb2).1 fun e'=>?_
    ·exact m4 (h.dist d k d (q+1) b' m3 (by rw [e'];exact hX)).2
    ·have:=(h.dist (ngN+b') j d (q+1) b2 hb2 (by rw [e'];exact hX)).1;omega) (S:=fun b'=>b'=b) (X d) hstep (fun b' hb'=>⟨q+1,by rw [hb'];exact hX⟩) hdn rfl (fun i _=>rfl) (.inr ⟨⟨_,by rw [ho];rfl⟩,rfl,rfl⟩) (fun i q' hi hr=>?_) ?_ (fun k b' hk=>?_) (fun k k' b' hk hk'=>(h.dist d k d k' b' hk hk').2) (by rw [ho];rfl)⟩
  ·refine ⟨fun e' ys hy=>?_,rfl,fun b' _=>Zax hheap hsz b'⟩;rw [ho] at hy ⊢
   cases q' with
   | zero => simp [Zy] at hy
   | succ q' =>
    simp only [ZM,Zy] at hy ⊢;by_cases hqq:q'=q
    ·subst hqq;rw [hq] at hy;simp only [Xf,Xt] at hy;obtain ⟨rfl,rfl⟩:=hy;rw [Wi (Xk.1 hq).1];exact ⟨xs',rfl,hl⟩
    ·rw [Wn (fun h=>hqq h.symm)];exact ⟨ys,hy,rfl⟩
  ·rw [ho];refine ⟨b0,arr0,t0,by rw [Zv];exact g1,g2,(setRow_other w b b0 arr' hne).trans g3,by rw [US];exact g4,g5,fun x hx=>?_,fun i x u hx hu=>?_⟩
   ·rcases Ur hx with hx | hx
    ·exact g6 x hx
    ·exact .inr (.inl ⟨_,_,_,hx⟩)
   ·rw [Zv];by_cases hi:i=q
    ·subst hi;rw [Wi (Xk.1 hq).1] at hx;simp only [Xf] at hx;subst hx;show Jv c.P _ lim Xb e xs' u (X d (i+1));rw [hX];refine hnew u ?_;rw [← hX];exact g7 i _ u hq hu
    ·rw [Wn (fun h=>hi h.symm)] at hx;refine (g7 i x u hx hu).mono hstep.ext fun b' hb'=>hstep.blk b' (h.ours d (i+1) b' hb').1 fun e'=>?_;have:=(h.dist d (i+1) d (q+1) b' hb' (by rw [e'];exact hX)).2;omega
  ·exact ⟨by have:=(h.ours d k b' hk).1;simpa using this,(h.ours d k b' hk).2,fun i j hi hij=>hi (h.dist i j d k b' hij hk).1⟩
theorem ZoG {P:Program} {o:Oper} {σ:Nat→AV} {T e:TypeId} {t t':Operand} {i:TypeInfo} {z:Value} {zc zc':List AV} {k:IntKind} {m:Int} (x:Bool) (ho:o.op = .makeSlice T t t') (hT:P.underlying T=Xa (.slice e)) (hi:P.info? e=Xa i)
  (hz:i.zero=Xa z) (hzs:z.cells.size=i.size) (hzc:ZaL z.cells.toList=Xa zc) (ht:Zo P σ t = .val (.int k m)) (ht':Zo P σ t' = .val (.int k m)) (h0:0≤m) (hm:m.toNat*(i.bytes+1)≤ZF) (hnm:Zm P e=Xe)
  (hw:zc'.length=zc.length∧∀ (w:World) (lim:Lm) (us:List Value),JI w lim zc us→JI w lim zc' us) :
  Js P o σ (.own x e (Xg m.toNat zc')) [] []:=by
 intro c hc σ' tm w lim X hid hag hsim next Q hn;have hg:Zo P σ' t=Zo P σ t:=ZJ fun u hu=>hid u (by simp [Zu (o:=o) (x:=t) (by rw [ho];simp [Op.operands]) hu]);have hg':Zo P σ' t'=Zo P σ t':=ZJ fun u hu=>hid u (by simp [Zu (o:=o) (x:=t') (by rw [ho];simp [Op.operands]) hu]);have hv:Act.eval ⟨tm,[]⟩ t = .int k m:=Z6 hc hsim ht hg;have hv':Act.eval ⟨tm,[]⟩ t' = .int k m:=Z6 hc hsim ht' hg';have hsz:P.cellsOf e=i.size:=ZO hi;have hzr:=hw.2 w lim _ (JX (w:=w) (lim:=lim) hzc);have hzl:z.cells.toList.length=i.size:=by rw [← hzs];simp
 have hb1:m.toNat≤1099511627776:=by
  have:m.toNat*1≤m.toNat*(i.bytes+1):=U5 _ (by omega);unfold ZF at hm;omega
 have hb2:(i.bytes:Int)*m≤281474976710656:=by
  have h1:m.toNat*i.bytes≤m.toNat*(i.bytes+1):=U5 _ (by omega);unfold ZF at hm
  have h2:((m.toNat*i.bytes:Nat):Int)=(i.bytes:Int)*m:=by
   rw [Int.natCast_mul,Int.mul_comm];congr 1;omega
  omega
 have hmx:(1099511627776:Nat)≤maxLen:=by decide
 have hrun:=run_make (P:=P) w T e i z hT hi hz k k m m h0 (Int.le_refl _) hb2 (by omega)
 have hmade:madeCells z.cells (m.toNat*i.size)=((Xg m.toNat z.cells.toList).flatten).toArray:=by
  have:=replicate_zero z.cells.toList m.toNat;rw [hzl,UA] at this;exact this
 have hrl:=JY hzr m.toNat
 have hx1:∀ x∈Xg m.toNat zc',x.length=P.cellsOf e:=by
  intro x hx;rw [(Wb.1 hx).2,hzr.1,hzl,hsz]
 have hstep:=VI w lim (madeCells z.cells (m.toNat*i.size)) e (if x=Xb then 0 else m.toNat*i.size) (fun _=>False)
 have hx2:∀ x∈Xg m.toNat zc',∀ y∈x,y.isCell=Xb:=fun x hx y hy=>by
  rw [(Wb.1 hx).2] at hy;exact hzr.2.1 y hy
 have hx3:∀ (j:Nat) (y:AV) (u:Value),(Xg m.toNat zc').flatten[j]? = Xa y→(madeCells z.cells (m.toNat*i.size))[j]? = Xa u→Rep (w.alloc (.cells (madeCells z.cells (m.toNat*i.size)) e)) ⟨fun b=>if b=w.heap.size then (if x=Xb then 0 else m.toNat*i.size) else lim b,lim.t⟩ y u:=fun j y u hy hu=>(hrl.2.2 j y u hy (by rw [hmade] at hu;simpa using hu)).mono hstep.ext;have hms:(madeCells z.cells (m.toNat*i.size)).toList.length=m.toNat*i.size:=by rw [UD,size_madeCells]
 have key:Jv P (w.alloc (.cells (madeCells z.cells (m.toNat*i.size)) e)) ⟨fun b=>if b=w.heap.size then (if x=Xb then 0 else m.toNat*i.size) else lim b,lim.t⟩ x e (Xg m.toNat zc') (.slice (Xa ⟨w.heap.size,0,Xc⟩) (Xg m.toNat zc').length m.toNat) (Xa w.heap.size):=by
  cases x
  ·refine .inl ⟨(madeCells z.cells (m.toNat*i.size)).toList,⟨by rw [hms,UL,hsz],.inr ⟨w.heap.size,m.toNat,_,rfl,X5 _,Yh w _ e,by simp,by omega,by rw [size_madeCells,hsz],Uo (by rw [hms,UL,hsz];exact Xy _)⟩⟩,rfl,fun b hb=>?_,hx1,hx2,fun j y u hy hu=>hx3 j y u hy (by simpa using hu)⟩
   cases hb
   show (if w.heap.size=w.heap.size then (if Xe=Xb then 0 else m.toNat*i.size) else lim w.heap.size)=_;rw [if_pos rfl,hms]
  ·exact ZiV (Yh w _ e) (if_pos rfl) (by simp) (by omega) (by rw [size_madeCells,hsz]) hx1 hx2 hx3
 rw [UL] at key;have hw2:=hsim.world hstep fun _ hs=>hs.elim;refine Zj (v:=.slice (Xa ⟨w.heap.size,0,Xc⟩) m.toNat m.toNat) (w':=w.alloc (.cells (madeCells z.cells (m.toNat*i.size)) e)) ?_ (hn _ _ (Jn hw2 (by rw [hc];exact key) (fun b hb=>?_) (fun _=>.cells fun b hb=>by cases hb;exact ⟨_,_,_,Yh w _ e⟩) fun _ hd=>by rw [hc,Jc hnm] at hd;cases hd))
 ·simp only [execOp,ho,hv,hv',Sem.run_bind,hrun,Result.andThen_ok,Sem.run_pure]
 ·simp only [Xf] at hb;subst hb;exact ⟨.inr hsim.frm.size,fun i j=>YG hsim i j⟩
theorem Zef {c:Ctx} {σ:Nat→AV} {tm:Array Value} {w:World} {lim:Lm} {X:Nat→Nat→Option Nat} (h:Sim c σ tm w lim X) {d q k:Nat} {e:TypeId} {xs:List (List AV)} {v:Value}
  (hd:Zy (σ d) q=Xa (e,xs)) (hv:ZS c.P w lim X σ k (.mref d q) v) (hnm:Zm c.P e=Xe∨Zn c.P e=Xb):(xs = []∧(v = .slice Xc 0 0∨∃ a,v = .slice (Xa a) 0 0))∨
   ∃ b arr cap cap',X d q=Xa b∧v = .slice (Xa ⟨b,0,Xc⟩) xs.length cap'∧w.heap[b]? = Xa (.cells arr (bT e) (0,0))∧lim b=0∧xs.length≤cap∧cap≤maxLen∧
   arr.size=cap*c.P.cellsOf (bT e)∧(∀ x∈xs,x.length=c.P.cellsOf (bT e))∧(∀ x∈xs,∀ c∈x,c.isCell=Xb)∧∀ (j:Nat) (c:AV) (u:Value),xs.flatten[j]? = Xa c→arr[j]? = Xa u→Rep w lim c u:=by
 obtain ⟨e',xs',h1,h2⟩:=hv;rw [hd] at h1;simp only [Xf,Xt] at h1;obtain ⟨rfl,rfl⟩:=h1
 have hno:Zm c.P e=Xb→Zn c.P e=Xe→False:=fun h1 h2=>by
  rcases hnm with h3 | h3
  ·rw [h3] at h1;cases h1
  ·rw [h3] at h2;cases h2
 rcases h2 with ⟨_,h2,h3⟩ | ⟨b,arr,cap',h2,h3,h4,h5⟩ | ⟨h2,h3,_⟩ | ⟨h2,h3,_⟩
 ·exact .inl ⟨X7 h2,h3⟩
 ·obtain ⟨u,ho⟩:=WY h hd;rw [h2] at ho;obtain ⟨arr0,cap,g1,g2,g3⟩:=Zp9 ho hnm (by rw [← h2];exact h.deepB (Zkm hd));exact .inr ⟨b,arr0,cap,cap',h2,h5,g2,g3⟩
 ·exact (hno h2 h3).elim
 ·exact (hno h2 h3).elim
theorem ZgW {c:Ctx} {σ:Nat→AV} {tm:Array Value} {w:World} {lim:Lm} {X:Nat→Nat→Option Nat} (h:Sim c σ tm w lim X) {d q k:Nat} {e:TypeId} {xs:List (List AV)} {v:Value}
  (hd:Zy (σ d) q=Xa (e,xs)) (hv:ZS c.P w lim X σ k (.mref d q) v) (hnm:Zm c.P e=Xe):(xs = []∧(v = .slice Xc 0 0∨∃ a,v = .slice (Xa a) 0 0))∨
   ∃ b arr cap cap',X d q=Xa b∧v = .slice (Xa ⟨b,0,Xc⟩) xs.length cap'∧w.heap[b]? = Xa (.cells arr e (0,0))∧lim b=0∧xs.length≤cap∧cap≤maxLen∧
   arr.size=cap*c.P.cellsOf e∧(∀ x∈xs,x.length=c.P.cellsOf e)∧(∀ x∈xs,∀ c∈x,c.isCell=Xb)∧∀ (j:Nat) (c:AV) (u:Value),xs.flatten[j]? = Xa c→arr[j]? = Xa u→Rep w lim c u:=by
 have:=Zef h hd hv (.inl hnm)
 rwa [Zam hnm] at this
theorem Zea {P:Program} {o:Oper} {σ:Nat→AV} {T e e':TypeId} {x i:Operand} {d q:Nat} {xs:List (List AV)} {k:IntKind} {z:Int} (ho:o.op = .indexAddr T x i)
  (hT:P.underlying T=Xa (.slice e)) (hs0:P.cellsOf e≠0) (hx:Zo P σ x = .mref d q) (hd:Zy (σ d) q=Xa (e',xs)) (hbe:bT e'=e) (hi:Zo P σ i = .val (.int k z)) (h0:0≤z) (hz:z.toNat < xs.length) (hnm:Zm P e'=Xe∨Zn P e'=Xb) :
  Js P o σ (.eref d q (z.toNat*P.cellsOf e+0)) [] [d]:=by
 refine Zq [d] rfl fun c hc σ' tm w lim X hg hfp hsim=>?_;rw [ho] at hg;have hv:=Yf hc hsim hx (hg x (by simp [Op.operands]));have hiv:=Z6 hc hsim hi (hg i (by simp [Op.operands]));have hd':Zy (σ' d) q=Xa (e',xs):=by rw [hfp d (by simp),hd]
 rw [← hc] at hv;rcases Zef hsim hd' hv (by rw [hc];exact hnm) with ⟨rfl,_⟩ | ⟨b,arr,cap,cap',g1,g2,g3⟩
 ·simp at hz
 ·obtain ⟨inf,hinf⟩:=Zx hs0;have hsz:P.cellsOf e=inf.size:=ZO hinf;refine ⟨.pointer (Xa ⟨b,z.toNat*P.cellsOf e+0,Xc⟩),?_,b,e',xs,hd',g1,.inl ⟨hnm,rfl⟩⟩;have hb:0≤z∧z < (xs.length:Int):=⟨h0,by omega⟩;simp [execOp,ho,g2,hiv,Instr.indexAt,asIntOf,run_underlying hT,hb,Zs hinf,Jr]
theorem Ys {s:Nat} : ∀ (xs:List (List AV)) (k:Nat),(∀ x∈xs,x.length=s)→(xs.take k).flatten=xs.flatten.take (k*s)
 | [], k, _ => by simp
 | x :: xs, 0, _ => by simp
 | x :: xs, k + 1, h => by
  have hx:x.length=s:=h x (by simp);simp only [List.take_succ_cons,X9];rw [Ys xs k fun y hy=>h y (by simp [hy]),List.take_append];have e1:(k+1)*s-x.length=k*s:=by rw [Uk];omega
  rw [e1,Uo (l:=x) (by rw [Uk];omega)]
theorem Zar {s:Nat} : ∀ (xs:List (List AV)) (k:Nat),(∀ x∈xs,x.length=s)→(xs.drop k).flatten=xs.flatten.drop (k*s)
 | [], k, _ => by simp
 | x :: xs, 0, _ => by simp
 | x :: xs, k + 1, h => by
  have hx:x.length=s:=h x (by simp);simp only [List.drop_succ_cons,X9];rw [Zar xs k fun y hy=>h y (by simp [hy]),List.drop_append];have e1:(k+1)*s-x.length=k*s:=by rw [Uk];omega
  rw [e1,Tl (l:=x) (by rw [Uk];omega)];rfl
theorem Zd3 {s:Nat} {xs:List (List AV)} {i o:Nat} {e:List AV} (h:∀ x∈xs,x.length=s) (hi:i < xs.length) (ho:o+e.length≤s) :
  (Jf xs i o e).flatten=xs.flatten.take (i*s+o)++e++xs.flatten.drop (i*s+o+e.length):=by
 have hx:xs[i].length=s:=h _ (Uc hi);have e0:xs=xs.take i++xs[i]::xs.drop (i+1):=by rw [List.getElem_cons_drop,List.take_append_drop]
 have hl:(xs.take i).flatten.length=i*s:=by
  rw [Ys xs i h,XU,Zz xs _ h];have:i*s≤xs.length*s:=XZ _ (by omega);omega
 have e1:Jf xs i o e=xs.take i++setCells xs[i] o e::xs.drop (i+1):=by
  unfold Jf;rw [List.modify_eq_take_cons_drop hi]
 have e2:=congrArg List.flatten e0;rw [UJ,X9] at e2;rw [e1,e2];simp only [UJ,X9];rw [List.take_append,List.drop_append,hl,Uo (l:=(xs.take i).flatten) (by rw [hl];omega),Tl (l:=(xs.take i).flatten) (by rw [hl];omega)];have e3:i*s+o-i*s=o:=by omega
 have e4:i*s+o+e.length-i*s=o+e.length:=by omega
 rw [e3,e4,List.take_append_of_le_length (by omega),List.drop_append_of_le_length (by omega)];unfold setCells;simp only [XM,Xo]
theorem ZjH {s:Nat} {xs:List (List AV)} {i o:Nat} {e:List AV} (h:∀ x∈xs,x.length=s) (hc:∀ x∈xs,∀ c∈x,c.isCell=Xb) (ho:o+e.length≤s) (he:∀ c∈e,c.isCell=Xb) :
  ∀ x∈Jf xs i o e,x.length=s∧∀ c∈x,c.isCell=Xb:=by
 intro x hx;obtain ⟨j,hj⟩:=XO.1 hx;unfold Jf at hj;rw [List.getElem?_modify] at hj
 cases hy:xs[j]? with
 | none => rw [hy] at hj; cases hj
 | some y =>
  rw [hy] at hj;simp only [Option.map_eq_map,Xw,Xf] at hj;subst hj;split
  ·have hm:=Xm hy;have hl:=h y hm;refine ⟨by simp [setCells,hl];omega,fun c hcx=>?_⟩;unfold setCells at hcx;rcases Xv.1 hcx with hcx | hcx
   ·rcases Xv.1 hcx with hcx | hcx
    ·exact hc y hm c (XR hcx)
    ·exact he c hcx
   ·exact hc y hm c (XY hcx)
  ·have hm:=Xm hy;exact ⟨h y hm,hc y hm⟩
theorem Zky {R:AV→Value→Prop} {zs vs:List AV} {us ws:List Value} {off:Nat} (h:∀ (j:Nat) (z:AV) (u:Value),zs[j]? = Xa z→us[j]? = Xa u→R z u) (h':∀ (j:Nat) (z:AV) (u:Value),vs[j]? = Xa z→ws[j]? = Xa u→R z u)
  (hl:vs.length=ws.length) (h1:off≤zs.length) (h2:off≤us.length) :
  ∀ (j:Nat) (z:AV) (u:Value),(zs.take off++vs++zs.drop (off+vs.length))[j]? = Xa z→(us.take off++ws++us.drop (off+ws.length))[j]? = Xa u→R z u:=by
 intro j z u hz hu;have l1:(zs.take off).length=off:=by rw [XU];omega
 have l2:(us.take off).length=off:=by rw [XU];omega
 rw [Xo] at hz hu;rcases XG j off with hlt | hge
 ·rw [Xx (by omega),List.getElem?_take_of_lt hlt] at hz hu;exact h j z u hz hu
 ·rw [Xz (by omega),l1] at hz;rw [Xz (by omega),l2] at hu;rcases XG (j-off) vs.length with hlt | hge'
  ·rw [Xx hlt] at hz;rw [Xx (by omega)] at hu;exact h' _ z u hz hu
  ·rw [Xz hge',XP] at hz;rw [Xz (by omega),XP] at hu;rw [← hl] at hu;exact h _ z u hz hu
theorem Zgn {c:Ctx} {σ:Nat→AV} {tm:Array Value} {w:World} {lim:Lm} {X:Nat→Nat→Option Nat} (h:Sim c σ tm w lim X) {d q k p:Nat} {e:TypeId} {xs:List (List AV)} {v:Value}
  (hd:Zy (σ d) q=Xa (e,xs)) (hv:ZS c.P w lim X σ k (.eref d q p) v) (hnm:Zm c.P e=Xe) :
   ∃ b arr cap,X d q=Xa b∧v = .pointer (Xa ⟨b,p,Xc⟩)∧w.heap[b]? = Xa (.cells arr e (0,0))∧lim b=0∧xs.length≤cap∧cap≤maxLen∧
   arr.size=cap*c.P.cellsOf e∧(∀ x∈xs,x.length=c.P.cellsOf e)∧(∀ x∈xs,∀ c∈x,c.isCell=Xb)∧∀ (j:Nat) (c:AV) (u:Value),xs.flatten[j]? = Xa c→arr[j]? = Xa u→Rep w lim c u:=by
 obtain ⟨b,e',xs',h1,h2,h3⟩:=hv;rw [hd] at h1;simp only [Xf,Xt] at h1;obtain ⟨rfl,rfl⟩:=h1;obtain ⟨u,ho⟩:=WY h hd;rw [h2] at ho;obtain ⟨arr0,cap,g1,g2,g3⟩:=Va ho (.inl hnm);exact ⟨b,arr0,cap,h2,h3.ptr (.inl hnm),g2,g3⟩
theorem Zkj {w:World} {lim:Lm} {xs:List (List AV)} {s i off n:Nat} {row:List AV} {arr:Array Value} {cap:Nat} (h1:∀ x∈xs,x.length=s) (h2:∀ x∈xs,∀ c∈x,c.isCell=Xb)
  (h3:∀ (j:Nat) (c:AV) (u:Value),xs.flatten[j]? = Xa c→arr[j]? = Xa u→Rep w lim c u) (h4:arr.size=cap*s) (h5:xs.length≤cap) (hrow:xs[i]? = Xa row) (hfit:off+n≤s) :
  ((arr.toList.drop (i*s+off)).take n).length=n∧((row.drop off).take n).length=n∧(∀ c∈(row.drop off).take n,c.isCell=Xb)∧
   ∀ (j:Nat) (c:AV) (u:Value),((row.drop off).take n)[j]? = Xa c→((arr.toList.drop (i*s+off)).take n)[j]? = Xa u→Rep w lim c u:=by
 have hi:=(Xk.1 hrow).1;have hrl:=h1 row (Xm hrow)
 have hm:i*s+s≤cap*s:=by
  rw [← Uk];exact XZ _ (by omega)
 refine ⟨by simp [h4];omega,by simp [hrl];omega,fun c hc=>h2 row (Xm hrow) c (XY (XR hc)),fun j c u hc hu=>?_⟩;rw [XC] at hc hu;split at hc
 ·rename_i hj;rw [if_pos hj,XP] at hu;rw [XP] at hc;refine h3 (i*s+(off+j)) c u ?_ ?_
  ·rw [Wp xs s h1 i row hrow (off+j) (by omega)];exact hc
  ·rw [← Wu];simpa using hu
 ·cases hc
theorem ZbK {P:Program} {o:Oper} {σ:Nat→AV} {T e:TypeId} {a:Operand} {d q i off:Nat} {xs:List (List AV)} {row:List AV} (ho:o.op = .load T a) (hT:Ji P T=Xa Xb)
  (ha:Zo P σ a = .eref d q (i*P.cellsOf e+off)) (hd:Zy (σ d) q=Xa (e,xs)) (hrow:xs[i]? = Xa row) (hn:off+P.cellsOf T≤P.cellsOf e) (hnm:Zm P e=Xe):Js P o σ (.agg ((row.drop off).take (P.cellsOf T))) [] [d]:=by
 refine Zq [d] rfl fun c hc σ' tm w lim X hg hfp hsim=>?_;rw [ho] at hg;have hv:=Yf hc hsim ha (hg a (by simp [Op.operands]));have hd':Zy (σ' d) q=Xa (e,xs):=by rw [hfp d (by simp),hd]
 rw [← hc] at hv;obtain ⟨b,arr,cap,g1,g2,g3,g4,g5,g6,g7,g8,g9,g10⟩:=Zgn hsim hd' hv (by rw [hc];exact hnm);rw [hc] at g2 g7 g8;obtain ⟨k1,k2,k3,k4⟩:=Zkj (off:=off) (n:=P.cellsOf T) g8 g9 g10 g7 g5 hrow hn;refine ⟨.agg ((arr.toList.drop (i*P.cellsOf e+off)).take (P.cellsOf T)).toArray,?_,?_⟩
 ·have:=V4 (w:=w) (b:=b) (off:=i*P.cellsOf e+off) hT k1 (fun j u hj=>by
   rw [ZR g3];rw [XC] at hj;split at hj
   ·simpa using hj
   ·cases hj)
  simp [execOp,ho,g2,this]
 ·exact .agg (by rw [k1,k2]) k3 k4
theorem ZaK {P:Program} {o:Oper} {σ:Nat→AV} {T e:TypeId} {a:Operand} {d q i off:Nat} {xs:List (List AV)} {row:List AV} {x:AV} (ho:o.op = .load T a) (hT:Ji P T=Xa Xe)
  (ha:Zo P σ a = .eref d q (i*P.cellsOf e+off)) (hd:Zy (σ d) q=Xa (e,xs)) (hrow:xs[i]? = Xa row) (hn:off+1≤P.cellsOf e) (hx:row[off]? = Xa x) (hnm:Zm P e=Xe):Js P o σ x [] [d]:=by
 intro c hc σ' tm w lim X hid hag hsim next Q hnx;have hg:Zo P σ' a=Zo P σ a:=ZJ fun t ht=>hid t (by simp [Zu (o:=o) (x:=a) (by rw [ho];simp [Op.operands]) ht]);have hv:=Yf hc hsim ha hg;have hd':Zy (σ' d) q=Xa (e,xs):=by rw [hag d (by simp),hd]
 rw [← hc] at hv;obtain ⟨b,arr,cap,g1,g2,g3,g4,g5,g6,g7,g8,g9,g10⟩:=Zgn hsim hd' hv (by rw [hc];exact hnm);rw [hc] at g2 g7 g8;obtain ⟨k1,k2,k3,k4⟩:=Zkj (off:=off) (n:=1) g8 g9 g10 g7 g5 hrow hn;have e1:(row.drop off).take 1 = [x]:=by rw [List.take_one,List.head?_drop,hx];rfl
 obtain ⟨u,hu⟩:∃ u,(arr.toList.drop (i*P.cellsOf e+off)).take 1 = [u]:=List.length_eq_one_iff.1 k1;rw [e1] at k3 k4;rw [hu] at k4
 have hcell:w.cell? ⟨b,i*P.cellsOf e+off,Xc⟩=Xa u:=by
  rw [ZR g3];have h1:((arr.toList.drop (i*P.cellsOf e+off)).take 1)[0]? = Xa u:=by rw [hu];rfl
  rw [XC,if_pos (by omega),XP] at h1;simpa using h1
 obtain ⟨p1,p2⟩:=YT (P:=P) (X:=X) (σ:=σ') (k:=0) (k3 x (by simp)) (k4 0 x u rfl rfl);refine Zj (v:=u) ?_ (hnx u w (Zw hsim p1 (k:=0) (by rw [hc];exact p2)));simp [execOp,ho,g2,J7 hT hcell]
theorem ZdD {P:Program} {o:Oper} {σ:Nat→AV} {T e:TypeId} {a x:Operand} {d q i off:Nat} {xs:List (List AV)} {vc vc':List AV} {y:AV} (ho:o.op = .store T a x) (ha:Zo P σ a = .eref d q (i*P.cellsOf e+off)) (hd:Zy (σ d) q=Xa (e,xs)) (hng:(σ d).isG=Xe)
  (hx:Zo P σ x=y) (hy:y.cells? = Xa vc) (hn:vc.length=P.cellsOf T) (h0:P.cellsOf T≠0) (hi:i < xs.length) (hfit:off+P.cellsOf T≤P.cellsOf e)
  (hw:vc'.length=vc.length∧∀ (w:World) (lim:Lm) (us:List Value),JI w lim vc us→JI w lim vc' us) (hnm:Zm P e=Xe) :
  Js P o σ .dead [(d,ZM (σ d) q Xb e (Jf xs i off vc'))] [d]:=by
 intro c hc σ' tm w lim X hid hag hsim next Q hnx;have hga:Zo P σ' a=Zo P σ a:=ZJ fun t ht=>hid t (by simp [Zu (o:=o) (x:=a) (by rw [ho];simp [Op.operands]) ht]);have hgx:Zo P σ' x=Zo P σ x:=ZJ fun t ht=>hid t (by simp [Zu (o:=o) (x:=x) (by rw [ho];simp [Op.operands]) ht]);have hsd:σ' d=σ d:=hag d (by simp);have hd':Zy (σ' d) q=Xa (e,xs):=by rw [hsd,hd]
 have hva:=Yf hc hsim ha hga;rw [← hc] at hva;obtain ⟨us,h4,h5⟩:=Vw hy (Yf hc hsim hx hgx);obtain ⟨b,arr,cap,g1,h3,g3,g4,g6,g7,g8,g9,g10,g11⟩:=Zgn hsim hd' hva (by rw [hc];exact hnm);rw [hc] at g8 g9 h3;obtain ⟨inf,hinf⟩:=Zx h0;have h5':=hw.2 w lim us h5;have hlen:us.length=P.cellsOf T:=by rw [← h5.1,hn]
 have hmul:i*P.cellsOf e+P.cellsOf e≤xs.length*P.cellsOf e:=by
  rw [← Uk];exact XZ _ hi
 have hcap:xs.length*P.cellsOf e≤cap*P.cellsOf e:=XZ _ g6;have hmem:=ZjH (i:=i) g9 g10 (by rw [hw.1,hn];exact hfit) h5'.2.1
 have hst:=YW (P:=P) (T:=T) (w:=w) (b:=b) (off:=i*P.cellsOf e+off) (v:=Act.eval ⟨tm,[]⟩ x) hinf h4 hlen g3 (by rw [hlen,g8];omega) (fun u hu=>by
  obtain ⟨j,hj⟩:=XO.1 hu;have hlt:j < vc.length:=by rw [h5.1];exact (Xk.1 hj).1
  exact (h5.2.2 j _ u (Xp hlt) hj).oneCell (h5.2.1 _ (Uc hlt)))
 obtain ⟨X',hset⟩:=hsim.setPlace (xs':=Jf xs i off vc') (arr':=(arr.toList.take (i*P.cellsOf e+off)++us++arr.toList.drop (i*P.cellsOf e+off+us.length)).toArray) hd' (by rw [hsd];exact hng) g1 g3
  (by simp [g8];omega) (by simp [Jf]) (fun x hx=>by rw [hc];exact (hmem x hx).1) (fun x hx=>(hmem x hx).2) (fun j z u hz hu=>by
   rw [Zd3 g9 (by omega) (by rw [hw.1,hn];exact hfit)] at hz;refine Zky (R:=Rep w lim) (us:=arr.toList) (fun j z u hz hu=>g11 j z u hz (by simpa using hu)) h5'.2.2 (by rw [hw.1,h5.1]) ?_ ?_ j z u hz (by simpa using hu)
   ·rw [Zz xs _ g9];omega
   ·simp [g8];omega)
 rw [hsd] at hset;refine Y2 (w':=w.setRow b (arr.toList.take (i*P.cellsOf e+off)++us++arr.toList.drop (i*P.cellsOf e+off+us.length)).toArray) ?_ (hnx undef _ ?_)
 ·simp only [execOp,ho,h3,Sem.run_bind,hst,Result.andThen_ok,Sem.run_pure]
 ·exact Zw hset rfl (k:=0) trivial
theorem ZfW {P:Program} {o:Oper} {σ:Nat→AV} {cl:Call} {x:Operand} {T el e:TypeId} {d q:Nat} {xs:List (List AV)} (ho:o.op = .call cl) (hcl:cl.callee = .builtin .len)
  (hargs:cl.args.toList = [x]) (hts:cl.argTypes.toList = [T]) (hT:P.underlying T=Xa (.slice el)) (hx:Zo P σ x = .mref d q) (hd:Zy (σ d) q=Xa (e,xs)) (hnm:Zm P e=Xe∨Zn P e=Xb):Js P o σ (.val (.int .i64 xs.length)) [] [d]:=by
 have hargs':cl.args = #[x]:=by apply XK.1;rw [hargs]
 have hts':cl.argTypes = #[T]:=by apply XK.1;rw [hts]
 refine Zq [d] rfl fun c hc σ' tm w lim X hg hfp hsim=>⟨.int .i64 xs.length,?_,.val rfl⟩;rw [ho] at hg;have hv:=Yf hc hsim hx (hg x (by simp [Op.operands,Call.operands,hargs',hcl]));have hd':Zy (σ' d) q=Xa (e,xs):=by rw [hfp d (by simp),hd]
 rw [← hc] at hv
 have hform:∃ a cap,Act.eval ⟨tm,[]⟩ x = .slice a xs.length cap:=by
  rcases Zef hsim hd' hv (by rw [hc];exact hnm) with ⟨rfl,h | ⟨a,h⟩⟩ | ⟨b,arr,cap,cap',g1,g2,g3⟩
  ·exact ⟨_,_,h⟩
  ·exact ⟨_,_,h⟩
  ·exact ⟨_,_,g2⟩
 obtain ⟨a,cap,g2⟩:=hform;simp [execOp,ho,hcl,resolve,hargs',hts',invoke,builtin,Builtin.len_,g2,run_underlying hT,goInt]
theorem Zle {P:Program} {w:World} {lim:Lm} {f:Bool} {ys:List (List AV)} {v:Value} (n:Nat) (h:Rep w lim (.slice f 1 ys) v) :
  (v = .slice Xc 0 0∧ys = [])∨∃ (a:Addr) (sLen sCap:Nat) (cs:List Value),v = .slice (Xa a) sLen sCap∧cs.length=Nat.min sLen n∧sLen=ys.length∧(∀ y∈ys,y.length=1∧∀ c∈y,c.isCell=Xb)∧(∀ j u,cs[j]? = Xa u→w.cell? (a.add j)=Xa u)∧
   (∀ u∈cs,u.oneCell'=Xb)∧∀ (j:Nat) (z:AV) (u:Value),(ys.take n).flatten[j]? = Xa z→cs[j]? = Xa u→Rep w lim z u:=by
 have key:∀ (y:AV),Rep w lim y v→y = .slice f 1 ys→(v = .slice Xc 0 0∧ys = [])∨∃ (a:Addr) (sLen sCap:Nat) (cs:List Value),v = .slice (Xa a) sLen sCap∧cs.length=Nat.min sLen n∧sLen=ys.length∧(∀ y∈ys,y.length=1∧∀ c∈y,c.isCell=Xb)∧(∀ j u,cs[j]? = Xa u→w.cell? (a.add j)=Xa u)∧
   (∀ u∈cs,u.oneCell'=Xb)∧∀ (j:Nat) (z:AV) (u:Value),(ys.take n).flatten[j]? = Xa z→cs[j]? = Xa u→Rep w lim z u:=by
  intro y hy hye
  cases hy with
  | sliceN => injection hye with h1 h2 h3; exact .inl ⟨rfl, h3.symm⟩
  | @sliceE f' s2 a cap hf =>
   injection hye with h1 h2 h3;subst h3;exact .inr ⟨a,0,cap,[],rfl,by simp,rfl,by simp,by simp,by simp,by simp⟩
  | @sliceC f' s2 xs b o cap us hs hc hf hle hlim hus hcell hr =>
   injection hye with h1 h2 h3;subst h2;subst h3;have hfl:xs.flatten.length=us.length:=by rw [Zz xs _ hs,hus]
   refine .inr ⟨⟨b,o,Xc⟩,xs.length,cap,us.take n,rfl,?_,rfl,fun y hy=>⟨hs y hy,hc y hy⟩,fun j u hj=>?_,fun u hu=>?_,fun j z u hz hu=>?_⟩
   ·rw [XU,hus,Wj];exact Nat.min_comm _ _
   ·rw [XC] at hj;split at hj
    ·rw [Jr];exact hcell j u hj
    ·cases hj
   ·obtain ⟨j,hj⟩:=XO.1 (XR hu);have hlt:j < xs.flatten.length:=by rw [hfl];exact (Xk.1 hj).1
    have hz:xs.flatten[j]? = Xa xs.flatten[j]:=Xp hlt;obtain ⟨l,hl,hzl⟩:=UK.1 (Uc hlt);exact (hr j _ u hz hj).oneCell (hc l hl _ hzl)
   ·rw [Ys xs n hs,Wj,XC] at hz;rw [XC] at hu;split at hz
    ·rename_i hjn;rw [if_pos hjn] at hu;exact hr j z u hz hu
    ·cases hz
  | val _ => cases hye
  | agg _ _ _ => cases hye
  | nest => cases hye
  | oref0 => cases hye
  | oref => cases hye
  | osl0 => cases hye
  | osl => cases hye
  | omap => cases hye
  | fnc => cases hye
  | omap0 => cases hye
  | fncN => cases hye
 exact key _ h rfl
theorem Zgk {P:Program} {w:World} {T T' ty e:TypeId} {v u:Value} {inf:TypeInfo} (hT:P.underlying T=Xa (.slice e)) (hi:P.info? e=Xa inf) (hv:v = .slice Xc 0 0∨∃ a,v = .slice (Xa a) 0 0)
  (hu:∃ b n c,u = .slice b n c):(Builtin.copy_ #[T,T'] ty #[v,u]).run P w = .ok (goInt 0) w:=by
 obtain ⟨b,n,c,rfl⟩:=hu;have hl:∀ a,(loadCells a 0).run P w = .ok #[] w:=fun a=>run_loadCells_list (P:=P) w a [] (fun j v hj=>by simp at hj);have hz:Nat.min n 0=0:=Nat.min_zero n;rcases hv with rfl | ⟨a,rfl⟩ <;> cases b<;>simp [Builtin.copy_,run_underlying hT,Zs hi,Builtin.lenOf,Builtin.firstCells,hz,hl,storeCells]
theorem ZeO {P:Program} {o:Oper} {σ:Nat→AV} {cl:Call} {T T' e:TypeId} {x y:Operand} {d q:Nat} {xs ys:List (List AV)} {f:Bool} (ho:o.op = .call cl) (hcl:cl.callee = .builtin .copy)
  (hargs:cl.args.toList = [x,y]) (hts:cl.argTypes.toList = [T,T']) (hT:P.underlying T=Xa (.slice e)) (hs:P.cellsOf e=1) (hx:Zo P σ x = .mref d q) (hd:Zy (σ d) q=Xa (e,xs)) (hng:(σ d).isG=Xe) (hy:Zo P σ y = .slice f 1 ys) (hnm:Zm P e=Xe) :
  Js P o σ .dead [(d,ZM (σ d) q Xb e (ZrT xs ys))] [d]:=by
 have hargs':cl.args = #[x,y]:=by apply XK.1;rw [hargs]
 have hts':cl.argTypes = #[T,T']:=by apply XK.1;rw [hts]
 intro c hc σ' tm w lim X hid hag hsim next Q hn;subst hc;have hgx:Zo c.P σ' x=Zo c.P σ x:=ZJ fun t ht=>hid t (by simp [Zu (o:=o) (x:=x) (by rw [ho];simp [Op.operands,Call.operands,hargs',hcl]) ht]);have hgy:Zo c.P σ' y=Zo c.P σ y:=ZJ fun t ht=>hid t (by simp [Zu (o:=o) (x:=y) (by rw [ho];simp [Op.operands,Call.operands,hargs',hcl]) ht]);have hsd:σ' d=σ d:=hag d (by simp);have hd':Zy (σ' d) q=Xa (e,xs):=by rw [hsd,hd]
 have hyv:Rep w lim (.slice f 1 ys) (Act.eval ⟨tm,[]⟩ y):=Yf rfl hsim hy hgy;obtain ⟨inf,hinf⟩:=Zx (P:=c.P) (T:=e) (by omega);have hsz:c.P.cellsOf e=inf.size:=ZO hinf;have hs1:(c.P.info? e).map (·.size)=Xa 1:=by rw [hinf,Xw,← hsz,hs]
 have hsame:∀ xs',xs'=xs→JG σ' [(d,ZM (σ d) q Xb e xs')]=σ':=by
  rintro xs' rfl;funext k;simp only [JG,upd];split
  ·rename_i hk;subst hk;rw [hsd];rcases ZK hd with ⟨h1,rfl⟩ | ⟨cs,q,h1,rfl,h2⟩ | ⟨cs,q,h1,rfl,h2⟩
   case inr.inr=>rw [h1] at hng;cases hng
   ·rw [h1];rfl
   ·rw [h1];simp only [ZM,AV.box.injEq];apply Wo;intro i;by_cases hi:i=q
    ·subst hi;rw [Wi (Xk.1 h2).1,h2]
    ·rw [Wn (fun h=>hi h.symm)]
  ·rfl
 rcases ZgW hsim hd' (Yf rfl hsim hx hgx) hnm with ⟨rfl,hv0⟩ | ⟨b,arr,cap,cap',g1,g2,g3,g4,g6,g7,g8,g9,g10,g11⟩
 ·have hrun:=Zgk (P:=c.P) (w:=w) (T:=T) (T':=T') (ty:=o.type) (u:=Act.eval ⟨tm,[]⟩ y) hT hinf hv0 (by
   rcases Zle (P:=c.P) 0 hyv with ⟨h,_⟩ | ⟨a,sLen,sCap,cs,h,_⟩
   ·exact ⟨_,_,_,h⟩
   ·exact ⟨_,_,_,h⟩)
  refine Zj (v:=goInt 0) (w':=w) ?_ (hn _ w ?_)
  ·simp only [execOp,ho,resolve,hcl,hargs',hts',Ws,Xh,XF,Sem.run_bind,Sem.run_pure,Result.andThen_ok,invoke,builtin,hrun]
  ·rw [hsame _ (by simp [ZrT])];exact Zw hsim rfl (k:=0) trivial
 have hf1:∀ x∈xs,x.length=1:=fun x hx=>by rw [g9 x hx,hs]
 rw [hs,Wj] at g8;rcases Zle (P:=c.P) xs.length hyv with ⟨hv,hnil⟩ | ⟨a,sLen,sCap,cs,hv,h1,h2,h3,h4,h5,h6⟩
 ·subst hnil;have hrun:=run_copy_nil c.P w T T' o.type e ⟨b,0,Xc⟩ xs.length cap' hT (by rw [hs1];rfl);refine Zj (v:=goInt 0) (w':=w) ?_ (hn _ w ?_)
  ·simp only [execOp,ho,resolve,hcl,hargs',hts',Ws,Xh,XF,Sem.run_bind,Sem.run_pure,Result.andThen_ok,invoke,builtin,g2,hv,hrun]
  ·rw [hsame _ (by simp [ZrT])];exact Zw hsim rfl (k:=0) trivial
 ·have h1':cs.length=min sLen xs.length:=h1;have hrun:=run_copy_row c.P w T T' o.type e b 0 xs.length cap' a sLen sCap arr e cs hT hs1 g3 h1 h4 (by rw [h1',g8];omega) h5;rw [XH] at hrun;have hcl':cs.length≤xs.length:=by rw [h1];exact Nat.min_le_right _ _
  have e1:ZrT xs ys=ys.take xs.length++xs.drop cs.length:=by
   unfold ZrT;rw [h1'];congr 1;by_cases hle:ys.length≤xs.length
   ·rw [h2,Nat.min_eq_left hle]
   ·rw [h2,Nat.min_eq_right (by omega),Tl (by omega),Tl (by omega)]
  have hyl:(ys.take xs.length).length=cs.length:=by rw [XU,h1',h2];exact Nat.min_comm _ _
  have hm:∀ x∈ZrT xs ys,x.length=1∧∀ c∈x,c.isCell=Xb:=by
   rw [e1];intro x hx;rcases Xv.1 hx with hx | hx
   ·exact h3 x (XR hx)
   ·exact ⟨hf1 x (XY hx),g10 x (XY hx)⟩
  have hyf:(ys.take xs.length).flatten.length=cs.length:=by rw [Zz (ys.take xs.length) 1 fun y hy=>(h3 y (XR hy)).1,hyl,Wj]
  obtain ⟨X',hset⟩:=hsim.setPlace (xs':=ZrT xs ys) (arr':=(arr.toList.take 0++cs++arr.toList.drop cs.length).toArray) hd' (by rw [hsd];exact hng) g1 g3 (by simp;omega) (by rw [e1,Xu,hyl,Ui];omega)
   (fun x hx=>by rw [hs];exact (hm x hx).1) (fun x hx=>(hm x hx).2) (fun j z u hz hu=>by
    rw [e1,UJ,Zar xs cs.length hf1,Wj] at hz;refine Zky (R:=Rep w lim) (off:=0) (zs:=xs.flatten) (us:=arr.toList) (fun j z u hz hu=>g11 j z u hz (by simpa using hu)) h6 hyf (X5 _) (X5 _) j z u ?_ ?_
    ·rw [XH,hyf];simpa using hz
    ·rw [XH];simpa using hu)
  rw [hsd] at hset;refine Zj (v:=goInt cs.length) (w':=w.setRow b (arr.toList.take 0++cs++arr.toList.drop cs.length).toArray) ?_ (hn _ _ (Zw hset rfl (k:=0) trivial));simp only [execOp,ho,resolve,hcl,hargs',hts',Ws,Xh,XF,Sem.run_bind,Sem.run_pure,Result.andThen_ok,invoke,builtin,g2,hv,hrun]
theorem Zjl {T':Odr} {P:Program} {o:Oper} {σ:Nat→AV} {T e:TypeId} {x y:Operand} {d:Nat} {xs:List (List AV)} {k:IntKind} {h:Nat} {us:List (Nat×AV)} (ho:o.op = .slice T x Xc (Xa y) Xc) (hT:P.underlying T=Xa (.slice e)) (hs0:P.cellsOf e≠0)
  (hx:Zo P σ x = .mref d 0) (hd:σ d = .own Xb e xs) (hy:Zo P σ y = .val (.int k h)) (hh:h≤xs.length) (hus:Yr T' σ d us) (hnm:Zm P e=Xe) :
  Ku T' P o σ (.own Xb e (xs.take h)) ((d,ZaW P Xb e xs)::us) [d]:=by
 intro c hc σ' tm w lim X hid hag hTx hsim next Q hn;have hgx:Zo P σ' x=Zo P σ x:=ZJ fun t ht=>hid t (by simp [Zu (o:=o) (x:=x) (by rw [ho];simp [Op.operands]) ht]);have hgy:Zo P σ' y=Zo P σ y:=ZJ fun t ht=>hid t (by simp [Zu (o:=o) (x:=y) (by rw [ho];simp [Op.operands]) ht]);have hd':σ' d = .own Xb e xs:=by rw [hag d (by simp),hd]
 have hv:=Yf hc hsim hx hgx;have hyv:=Z6 hc hsim hy hgy;rw [← hc] at hv;obtain ⟨X1,k1,k2,k3,_⟩:=hsim.freeAll (us:=us) hd' (.inr (hus.all hTx));rw [hc] at k1;obtain ⟨inf,hinf⟩:=Zx hs0;have hat:Zy (σ' d) 0=Xa (e,xs):=by rw [hd'];rfl
 rcases ZgW hsim hat hv (by rw [hc];exact hnm) with ⟨rfl,hform⟩ | ⟨b,arr,cap,cap',g1,g2,g3,g4,g5,g6,g7,g8,g9,g10⟩
 ·have hh0:h=0:=by simpa using hh
  subst hh0;rcases hform with hf | ⟨a,hf⟩
  ·refine Zj (v:=.slice Xc 0 0) (w':=w) ?_ (hn _ w (Jn (ob:=Xc) k1 (.inl ⟨[],World.ownsRow_nil _ 0 e _,rfl,by simp,by simp,by simp,by simp⟩) (by simp) (fun _=>.none rfl) fun _ _ b hb=>by cases hb));simp [execOp,ho,hf,hyv,Instr.sliceAt,Instr.slice,Instr.sliceBounds,Instr.sliceBound,asIntOf,run_underlying hT,Zs hinf]
  ·refine Zj (v:=.slice (Xa a) 0 0) (w':=w) ?_ (hn _ w (Jn (ob:=Xc) k1 (.inr (.inl ⟨rfl,rfl,a,rfl⟩)) (by simp) (fun _=>.none rfl) fun _ _ b hb=>by cases hb));simp [execOp,ho,hf,hyv,Instr.sliceAt,Instr.slice,Instr.sliceBounds,Instr.sliceBound,asIntOf,run_underlying hT,Zs hinf]
 ·have hsz:P.cellsOf e=inf.size:=ZO hinf
  have hle:xs.length≤cap':=by
   obtain ⟨e2,xs2,m1,m2⟩:=hv;rw [hat] at m1;simp only [Xf,Xt] at m1;obtain ⟨rfl,rfl⟩:=m1;rcases m2.noMap (by rw [hc];exact hnm) with ⟨m2,_⟩ | ⟨b',arr',cap2,m2,m3,m4,m5⟩
   ·rw [g1] at m2;cases m2
   ·rw [g1] at m2;have hb:b=b':=XT m2;subst hb;rw [g3] at m3;simp only [Xf,Obj.cells.injEq,and_true] at m3;subst m3;rw [g2] at m5;simp only [Value.slice.injEq] at m5;have hcap:cap2=cap:=Tx (by rw [hc];omega) (m4.symm.trans g7);omega
  have hce:cap'=cap:=by
   obtain ⟨e2,xs2,m1,m2⟩:=hv;rw [hat] at m1;simp only [Xf,Xt] at m1;obtain ⟨rfl,rfl⟩:=m1;rcases m2.noMap (by rw [hc];exact hnm) with ⟨m2,_⟩ | ⟨b',arr',cap2,m2,m3,m4,m5⟩
   ·rw [g1] at m2;cases m2
   ·rw [g1] at m2;have hb:b=b':=XT m2;subst hb;rw [g3] at m3;simp only [Xf,Obj.cells.injEq,and_true] at m3;subst m3;rw [g2] at m5;simp only [Value.slice.injEq] at m5;have hcap:cap2=cap:=Tx (by rw [hc];omega) (m4.symm.trans g7);omega
  subst hce;have hlt:(xs.take h).length=h:=by rw [XU];omega
  have key:Jv c.P w lim Xb e (xs.take h) (.slice (Xa ⟨b,0,Xc⟩) (xs.take h).length cap') (Xa b):=
   ZiV g3 g4 (by omega) g6 g7 (fun x hx=>g8 x (XR hx)) (fun x hx=>g9 x (XR hx)) fun j z u hz hu=>g10 j z u (by
    rw [Ys xs h g8,XC] at hz;split at hz
    ·exact hz
    ·cases hz) hu
  rw [hlt] at key;refine Zj (v:=.slice (Xa ⟨b,0,Xc⟩) h cap') (w':=w) ?_ (hn _ w (Jn k1 key (fun b' hb'=>?_) (fun _=>.noMap (by rw [hc];exact hnm)) fun _ hd=>by rw [hc,Jc hnm] at hd;cases hd))
  ·have b1:h≤cap':=by omega
   simp [execOp,ho,g2,hyv,Instr.sliceAt,Instr.slice,Instr.sliceBounds,Instr.sliceBound,asIntOf,run_underlying hT,Zs hinf,b1,Jr]
  ·exact k3 b' (g1.trans hb')
theorem ZpH {c:Ctx} {σ:Nat→AV} {tm:Array Value} {w:World} {lim:Lm} {X:Nat→Nat→Option Nat} (h:Sim c σ tm w lim X) {d q k:Nat} {e:TypeId} {xs:List (List AV)} {v:Value}
  (hd:Zy (σ d) q=Xa (e,xs)) (hv:ZS c.P w lim X σ k (.mref d q) v) (hnm:Zm c.P e=Xe):RdS w lim (c.P.cellsOf e) xs v:=by
 rcases ZgW h hd hv hnm with ⟨h1,h2 | ⟨a,h2⟩⟩ | ⟨b,arr,cap,cap',g1,g2,g3,g4,g5,g6,g7,g8,g9,g10⟩
 ·exact .inl ⟨h1,_,_,h2⟩
 ·exact .inl ⟨h1,_,_,h2⟩
 ·have hal:arr.toList.length=cap*c.P.cellsOf e:=by simpa using g7
  have hle:xs.length*c.P.cellsOf e≤arr.toList.length:=by rw [hal];exact XZ _ g5
  refine .inr ⟨b,0,cap',arr.toList.take (xs.length*c.P.cellsOf e),g2,g8,g9,by rw [XU];omega,fun j u hj=>?_,fun j z u hz hu=>?_⟩
  ·rw [XC] at hj;split at hj
   ·rw [XH,ZR g3];simpa using hj
   ·cases hj
  ·rw [XC] at hu;split at hu
   ·exact g10 j z u hz (by simpa using hu)
   ·cases hu
theorem ZdP {P:Program} {o:Oper} {σ:Nat→AV} {T e:TypeId} {x y z:Operand} {d q s:Nat} {k k':IntKind} (ho:o.op = .slice T x Xc (Xa y) (Xa z))
  (hT:P.underlying T=Xa (.slice e)) (hs0:P.cellsOf e≠0) (hx:Zo P σ x = .mref d q) (hy:Zo P σ y = .val (.int k 0)) (hz:Zo P σ z = .val (.int k' 0)) {e':TypeId} {xs':List (List AV)} (hd:Zy (σ d) q=Xa (e',xs')) (hnm:Zm P e'=Xe):Js P o σ (.slice Xb s []) [] [d]:=by
 refine Zq [d] rfl fun c hc σ' tm w lim X hg hfp hsim=>?_;rw [ho] at hg;have hv:=Yf hc hsim hx (hg x (by simp [Op.operands]));have hy':=Z6 hc hsim hy (hg y (by simp [Op.operands]));have hz':=Z6 hc hsim hz (hg z (by simp [Op.operands]));obtain ⟨inf,hinf⟩:=Zx hs0;generalize hu:Act.eval ⟨tm,[]⟩ x=u at hv;obtain ⟨e2,xs,he2,hv⟩:=hv;rw [hfp d (by simp),hd] at he2;simp only [Xf,Xt] at he2;obtain ⟨rfl,rfl⟩:=he2;rcases hv.noMap hnm with ⟨_,_,rfl | ⟨a,rfl⟩⟩ | ⟨b,arr,cap,_,_,_,rfl⟩
 ·refine ⟨.slice Xc 0 0,?_,.sliceN⟩;simp [execOp,ho,hu,hy',hz',Instr.sliceAt,Instr.slice,Instr.sliceBounds,Instr.sliceBound,asIntOf,run_underlying hT,Zs hinf]
 ·refine ⟨.slice (Xa a) 0 0,?_,.sliceE (fun _=>rfl)⟩;simp [execOp,ho,hu,hy',hz',Instr.sliceAt,Instr.slice,Instr.sliceBounds,Instr.sliceBound,asIntOf,run_underlying hT,Zs hinf]
 ·refine ⟨.slice (Xa ⟨b,0,Xc⟩) 0 0,?_,.sliceE (fun _=>rfl)⟩;simp [execOp,ho,hu,hy',hz',Instr.sliceAt,Instr.slice,Instr.sliceBounds,Instr.sliceBound,asIntOf,run_underlying hT,Zs hinf]
theorem WR {P:Program} {o:Oper} {σ:Nat→AV} (ex:Bool) {cl:Call} {T e:TypeId} {i:TypeInfo} {z:Value} {x y:Operand} {d q:Nat} {ys:List (List AV)} {s:Nat} (ho:o.op = .call cl) (hcl:cl.callee = .builtin .append)
  (hargs:cl.args.toList = [x,y]) (hts:cl.argTypes.toList = [T,T]) (hT:P.underlying T=Xa (.slice e)) (hi:P.info? e=Xa i) (hz:i.zero=Xa z) (hzs:z.cells.size=i.size)
  (hx:Zo P σ x = .slice Xb s []) (hy:Zo P σ y = .mref d q) (hd:Zy (σ d) q=Xa (e,ys)) (hroom:(([] : List (List AV)).length+ys.length)*(i.bytes+1)≤ZF) (hnm:Zm P e=Xe) :
  Js P o σ (.own ex e ys) [] [d]:=by
 have hargs':cl.args = #[x,y]:=by apply XK.1;rw [hargs]
 have hts':cl.argTypes = #[T,T]:=by apply XK.1;rw [hts]
 intro c hc σ' tm w lim X hid hag hsim next Q hn;have hgx:Zo P σ' x=Zo P σ x:=ZJ fun t ht=>hid t (by simp [Zu (o:=o) (x:=x) (by rw [ho];simp [Op.operands,Call.operands,hargs',hcl]) ht]);have hgy:Zo P σ' y=Zo P σ y:=ZJ fun t ht=>hid t (by simp [Zu (o:=o) (x:=y) (by rw [ho];simp [Op.operands,Call.operands,hargs',hcl]) ht]);have hxv:Jv P w lim ex e [] (Act.eval ⟨tm,[]⟩ x) Xc:=ZbC (s:=s) (Yf hc hsim hx hgx);have hd':Zy (σ' d) q=Xa (e,ys):=by rw [hag d (by simp),hd]
 have hyv:RdS w lim (P.cellsOf e) ys (Act.eval ⟨tm,[]⟩ y):=by
  have hv:=Yf hc hsim hy hgy;rw [← hc] at hv ⊢;exact ZpH hsim hd' hv (by rw [hc];exact hnm)
 obtain ⟨v',w',lim',ob',r1,r2,r3,r4⟩:=Y1 (ty:=o.type) hT hi hz hzs hxv hyv hroom hnm;have hw:=hsim.world r3 fun b hb=>by cases hb
 refine Zj (v:=v') (w':=w') ?_ (hn _ w' ?_)
 ·simp only [execOp,ho,resolve,hcl,hargs',hts',Ws,Xh,XF,Sem.run_bind,Sem.run_pure,Result.andThen_ok,invoke,builtin,r1]
 ·rw [← hc,XM] at r2;refine Jn hw r2 (fun b hb=>?_) (fun _=>.noMap (by rw [hc];exact hnm)) fun _ hd=>by rw [hc,Jc hnm] at hd;cases hd
  rcases r4 with r4 | r4
  ·rw [r4] at hb;cases hb
  ·rw [r4] at hb;simp only [Xf] at hb;subst hb;exact ⟨.inr hsim.frm.size,fun i j=>YG hsim i j⟩
theorem Zap {T':Odr} {P:Program} {o:Oper} {σ:Nat→AV} {cl:Call} {T e:TypeId} {i:TypeInfo} {z:Value} {t:Nat} {y:Operand} {x:Bool} {xs ys:List (List AV)} {us:List (Nat×AV)} {d q:Nat} (ho:o.op = .call cl) (hcl:cl.callee = .builtin .append)
  (hargs:cl.args.toList = [.tmp t,y]) (hts:cl.argTypes.toList = [T,T]) (hT:P.underlying T=Xa (.slice e)) (hi:P.info? e=Xa i) (hz:i.zero=Xa z) (hzs:z.cells.size=i.size)
  (ht:σ t = .own x e xs) (hy:Zo P σ y = .mref d q) (hd:Zy (σ d) q=Xa (e,ys)) (hroom:(xs.length+ys.length)*(i.bytes+1)≤ZF) (hus:(x=Xe∧us = [])∨Yr T' σ t us) (hnm:Zm P e=Xe) :
  Ku T' P o σ (.own x e (xs++ys)) ((t,ZaW P x e xs)::us) [d]:=by
 have hargs':cl.args = #[.tmp t,y]:=by apply XK.1;rw [hargs]
 have hts':cl.argTypes = #[T,T]:=by apply XK.1;rw [hts]
 intro c hc σ' tm w lim X hid hag hTx hsim next Q hn;have hgy:Zo P σ' y=Zo P σ y:=ZJ fun t ht=>hid t (by simp [Zu (o:=o) (x:=y) (by rw [ho];simp [Op.operands,Call.operands,hargs',hcl]) ht]);have ht':σ' t = .own x e xs:=by rw [hag t (by simp),ht]
 obtain ⟨X1,h1,h2,h3,_⟩:=hsim.freeAll (us:=us) ht' (hus.imp id fun h=>h.all hTx);have hd':Zy (σ' d) q=Xa (e,ys):=by rw [hag d (by simp),hd]
 have hyv:RdS w lim (P.cellsOf e) ys (Act.eval ⟨tm,[]⟩ y):=by
  have hv:=Yf hc hsim hy hgy;rw [← hc] at hv ⊢;exact ZpH hsim hd' hv (by rw [hc];exact hnm)
 rw [hc] at h2;obtain ⟨v',w',lim',ob',r1,r2,r3,r4⟩:=Y1 (ty:=o.type) hT hi hz hzs h2 hyv hroom hnm;have hw:=h1.world r3 h3;refine Zj (v:=v') (w':=w') ?_ (hn _ w' ?_)
 ·have hev:Act.eval ⟨tm,[]⟩ (.tmp t)=tm.getD t undef:=rfl;simp only [execOp,ho,resolve,hcl,hargs',hts',Ws,Xh,XF,Sem.run_bind,Sem.run_pure,Result.andThen_ok,invoke,builtin,hev,r1]
 ·rw [hc] at hw;rw [← hc] at r2;refine Jn hw r2 (fun b hb=>?_) (fun _=>.noMap (by rw [hc];exact hnm)) fun _ hd=>by rw [hc,Jc hnm] at hd;cases hd
  rcases r4 with r4 | r4
  ·rw [r4] at hb;exact h3 b hb
  ·rw [r4] at hb;simp only [Xf] at hb;subst hb;exact ⟨.inr hsim.frm.size,fun i j=>YG h1 i j⟩
theorem Kc {P:Program} {w:World} {T ty e:TypeId} {a:Option Addr} {c:Nat} (hT:P.underlying T=Xa (.slice e)):(Builtin.clear_ #[T] ty #[.slice a 0 c]).run P w = .ok (.tuple #[]) w:=by
 cases a<;>simp [Builtin.clear_,run_underlying hT]
theorem VW {P:Program} {w:World} {T ty e t:TypeId} {inf:TypeInfo} {z:Value} {b o n c:Nat} {arr:Array Value} (hT:P.underlying T=Xa (.slice e)) (hi:P.info? e=Xa inf) (hz:inf.zero=Xa z) (hg:w.heap[b]? = Xa (.cells arr t (0,0)))
  (hfit:o+(n+1)*z.cells.size≤arr.size) (h1:∀ v∈z.cells.toList,v.oneCell'=Xb) :
  (Builtin.clear_ #[T] ty #[.slice (Xa ⟨b,o,Xc⟩) (n+1) c]).run P w =
   .ok (.tuple #[]) (w.setRow b (arr.toList.take o++(Xg (n+1) z.cells.toList).flatten++arr.toList.drop (o+(n+1)*z.cells.size)).toArray):=by
 have hrep:=replicate_zero z.cells.toList (n+1);rw [UA] at hrep
 have hzc:(Builtin.zeroCells z.cells (n+1)).toList=(Xg (n+1) z.cells.toList).flatten:=by
  have:Builtin.zeroCells z.cells (n+1)=madeCells z.cells ((n+1)*z.cells.toList.length):=by simp [Builtin.zeroCells,madeCells]
  rw [this];have h2:madeCells z.cells ((n+1)*z.cells.toList.length)=((Xg (n+1) z.cells.toList).flatten).toArray:=hrep;rw [h2]
 have hlen:((Xg (n+1) z.cells.toList).flatten).length=(n+1)*z.cells.size:=by simp
 have hst:=run_storeCells_at P b o t ((Xg (n+1) z.cells.toList).flatten) 0 arr w hg (by rw [hlen];exact hfit) (fun v hv=>by
  obtain ⟨l,hl,hv⟩:=UK.1 hv;rw [(Wb.1 hl).2] at hv;exact h1 v hv)
 rw [Uh,hlen] at hst;simp [Builtin.clear_,run_underlying hT,zeroValue,typeInfo,run_program,hi,hz,hzc,hst]
theorem Sim.clear {c:Ctx} {σ:Nat→AV} {tm:Array Value} {w:World} {lim:Lm} {X:Nat→Nat→Option Nat} (h:Sim c σ tm w lim X) {x n:Nat} {T e:TypeId} {inf:TypeInfo} {z:Value} {zc:List AV} {xs:List (List AV)} (hx:σ x = .own Xb e xs)
  (hT:c.P.underlying T=Xa (.slice e)) (hi:c.P.info? e=Xa inf) (hz:inf.zero=Xa z) (hzs:z.cells.size=inf.size) (h0:0 < inf.size) (hzr:∀ (w:World) (lim:Lm),JI w lim zc z.cells.toList) (h1z:∀ v∈z.cells.toList,v.oneCell'=Xb) (hn:n≤xs.length) (hnm:Zm c.P e=Xe) :
  ∃ v2 w' X',(Instr.sliceAt T (tm.getD x undef) (Xa (.int .i64 n)) Xc Xc).run c.P w = .ok v2 w∧(∀ ty,(Builtin.clear_ #[T] ty #[v2]).run c.P w = .ok (.tuple #[]) w')∧
   Sim c (upd σ x (.own Xb e (xs.take n++Xg (xs.length-n) zc))) tm w' lim X'∧xs.length≤maxLen:=by
 have hk:c.P.cellsOf e=inf.size:=ZO hi;have hrel:=h.rel x;rw [hx] at hrel;have hrel:Jv c.P w lim Xb e xs (tm.getD x undef) (X x 0):=hrel
 have same:∀ ys,ys=xs→upd σ x (.own Xb e ys)=σ:=by
  rintro ys rfl;funext i;by_cases hi:i=x
  ·subst hi;rw [ZI,hx]
  ·rw [Ze σ _ hi]
 have hsz:∀ w,(sizeOf e).run c.P w = .ok inf.size w:=fun w=>by rw [Zs hi,hk]
 cases hX:X x 0 with
 | none =>
  rw [hX] at hrel
  have hform:∃ base,tm.getD x undef = .slice base 0 0∧xs = []:=by
   rcases hrel.noMap hnm with ⟨us,hr,hob,_⟩ | ⟨hxs,_,a,hv⟩
   ·rcases hr.2 with ⟨hv,hl⟩ | ⟨g,cap,cur,hv,_⟩
    ·exact ⟨Xc,hv,X7 hl⟩
    ·rw [hv] at hob;cases hob
   ·exact ⟨_,hv,hxs⟩
  obtain ⟨base,hv,rfl⟩:=hform;have hn0:n=0:=by simpa using hn
  subst hn0;refine ⟨.slice base 0 0,w,X,?_,fun ty=>Kc hT,by rw [same _ (by simp)];exact h,by simp⟩;rw [hv]
  cases base<;>simp [Instr.sliceAt,Instr.slice,Instr.sliceBounds,Instr.sliceBound,asIntOf,run_underlying hT,hsz]
 | some b =>
  rw [hX] at hrel;obtain ⟨arr,cap,hv,hg,hl,hle,hcm,hcs,hxl,hxc,hxr⟩:=Va hrel (.inl hnm);rw [hk] at hcs hxl;have hnc:n≤cap:=by omega
  have hzl:z.cells.toList.length=inf.size:=by rw [← hzs];simp
  have hslice:(Instr.sliceAt T (tm.getD x undef) (Xa (.int .i64 n)) Xc Xc).run c.P w = .ok (.slice (if cap=n then Xa ⟨b,0,Xc⟩ else Xa ⟨b,n*inf.size,Xc⟩) (xs.length-n) (cap-n)) w:=by
   rw [hv];have q1:n≤xs.length:=hn;simp [Instr.sliceAt,Instr.slice,Instr.sliceBounds,Instr.sliceBound,asIntOf,run_underlying hT,hsz,q1,hnc,hle,Jr]
  by_cases hend:n=xs.length
  ·refine ⟨_,w,X,hslice,fun ty=>?_,by rw [same _ (by rw [hend];simp)];exact h,by omega⟩;rw [hend,Nat.sub_self];exact Kc hT
  ·have hcn:¬ cap=n:=by omega
   obtain ⟨p,hp⟩:∃ p,xs.length-n=p+1:=⟨xs.length-n-1,by omega⟩
   have m1:n*inf.size+(p+1)*inf.size≤cap*inf.size:=by
    rw [← Wh];exact XZ _ (by omega)
   rw [if_neg hcn,hp] at hslice;have hclr:=fun ty=>VW (P:=c.P) (w:=w) (ty:=ty) (o:=n*inf.size) (n:=p) (c:=cap-n) hT hi hz hg (by rw [hzs,hcs];exact m1) h1z;have hal:arr.toList.length=cap*inf.size:=by simpa using hcs
   have hfl:((Xg (p+1) z.cells.toList).flatten).length=(p+1)*inf.size:=by simp [hzl,← hzs]
   obtain ⟨arr',harr⟩:∃ arr',arr'=(arr.toList.take (n*inf.size)++(Xg (p+1) z.cells.toList).flatten++arr.toList.drop (n*inf.size+(p+1)*z.cells.size)).toArray:=⟨_,rfl⟩;have hrl:=JY (hzr w lim) (p+1);have hxf:xs.flatten.length=xs.length*inf.size:=Zz xs _ hxl;have hnx:n*inf.size≤xs.length*inf.size:=XZ _ hn
   obtain ⟨X',hs⟩:=h.setPlace (d:=x) (k:=0) (b:=b) (e:=e) (xs:=xs) (xs':=xs.take n++Xg (p+1) zc) (arr:=arr) (arr':=arr') (by rw [hx];rfl) (by rw [hx];rfl) hX hg
    (by
     rw [harr,UB,Xu,Xu,hfl,XU,Ui,hal,hzs,hcs];omega)
    (by rw [Xu,XU,UL];omega)
    (fun y hy=>by
     rw [hk];rcases Xv.1 hy with hy | hy
     ·exact hxl y (XR hy)
     ·rw [(Wb.1 hy).2,(hzr w lim).1,hzl])
    (fun y hy=>by
     rcases Xv.1 hy with hy | hy
     ·exact hxc y (XR hy)
     ·rw [(Wb.1 hy).2];exact (hzr w lim).2.1)
    (fun j y u hy hu=>by
     rw [harr,List.getElem?_toArray,Xo] at hu;rw [UJ,Ys xs n hxl] at hy;have hln:(xs.flatten.take (n*inf.size)).length=n*inf.size:=by rw [XU,hxf];omega
     have hla:(arr.toList.take (n*inf.size)).length=n*inf.size:=by rw [XU,hal];omega
     by_cases hj:j < n*inf.size
     ·rw [Xx (by omega),XC,if_pos hj] at hy;rw [Xx (by omega),XC,if_pos hj] at hu;exact hxr j y u hy (by simpa using hu)
     ·rw [Xz (by omega),hln] at hy;rw [Xz (by omega),hla] at hu;have hjl:=(Xk.1 hy).1;have hfz:((Xg (p+1) zc).flatten).length=(p+1)*inf.size:=by simp [(hzr w lim).1,hzl,← hzs]
      rw [hfz] at hjl;rw [Xx (by rw [hfl];exact hjl)] at hu;exact hrl.2.2 _ y u hy hu)
   refine ⟨_,_,X',hslice,hclr,?_,by omega⟩;rw [← harr,hp];rw [hx] at hs;exact hs
open Go.MapKept
open Go.RowKit (Below Below.refl)
theorem YK (k:Int):IsKey (.int .i64) (.int .i64 k):=rfl
theorem ZmY (z:Int) (c:List AV):Zl (.val (.int .i64 z)::c)=Xa z:=rfl
theorem ZdH {es:Array MapEntry} {clock:Nat} {kvs:List (List AV)} (hl:es.size=kvs.length) (hs:Stamped es clock) (hr:∀ (i:Nat) (en:MapEntry) (row:List AV),es[i]? = Xa en→kvs[i]? = Xa row→∃ (z:Int) (tl:List AV),row = .val (.int .i64 z)::tl∧en.key = .int .i64 z) (k:Int) :
  (∀ x∈es.toList,IsKey (.int .i64) x.key)∧
  ((Instr.findNow (.int .i64) (.int .i64 k) es.toList 0=Xa Xc∧(∀ x∈es.toList,x.key≠.int .i64 k)∧∀ r∈kvs,Zl r≠Xa k)∨
   ∃ j en row,Instr.findNow (.int .i64) (.int .i64 k) es.toList 0=Xa (Xa (j,en.val))∧es[j]? = Xa en∧kvs[j]? = Xa row∧en.key = .int .i64 k∧Zl row=Xa k∧kvs.find? (fun r=>Zl r == Xa k)=Xa row∧∀ i r,kvs[i]? = Xa r→i≠j→Zl r≠Xa k):=by
 have hat:∀ i (hi:i < es.size),∃ row,kvs[i]? = Xa row∧∃ (z:Int) (tl:List AV),row = .val (.int .i64 z)::tl∧es[i].key = .int .i64 z:=fun i hi=>by
  have hi':i < kvs.length:=by omega
  exact ⟨kvs[i],Xp hi',hr i _ _ (XV hi) (Xp hi')⟩
 have hkey:∀ x∈es.toList,IsKey (.int .i64) x.key:=fun x hx=>by
  obtain ⟨i,hi,rfl⟩:=Ty.1 hx;have hi':i < es.size:=by simpa using hi
  obtain ⟨row,_,z,ys,_,h2⟩:=hat i hi';have:es.toList[i]=es[i]:=by simp
  rw [this,h2];exact rfl
 have hrk:∀ i r (hi:i < es.size),kvs[i]? = Xa r→Zl r=Xa k→es[i].key = .int .i64 k:=fun i r hi hr' hk=>by
  obtain ⟨row,h1,z,ys,h3,h2⟩:=hat i hi;rw [h1] at hr'
  cases hr'
  rw [h3,ZmY] at hk
  cases hk
  exact h2
 refine ⟨hkey,?_⟩;rcases findNow_spec (YK k) es.toList 0 hkey with ⟨h1,h2⟩ | ⟨j,en,h1,h2,h3⟩
 ·refine .inl ⟨h1,h2,fun r hrm hk=>?_⟩;obtain ⟨i,hi,rfl⟩:=Ty.1 hrm;have hi':i < es.size:=by omega
  exact h2 es[i] (by simp) (hrk i _ hi' (Xp hi) hk)
 ·rw [XH] at h1;have hj:es[j]? = Xa en:=by simpa using h2
  have hjl:j < es.size:=(Wk.1 hj).1;obtain ⟨row,h4,z,ys,h5,h6⟩:=hat j hjl;have hen:es[j]=en:=(Wk.1 hj).2;rw [hen,h3] at h6
  cases h6
  have huniq:∀ i r,kvs[i]? = Xa r→i≠j→Zl r≠Xa k:=by
   intro i r hi hij hk;have hil:i < es.size:=by have:=(Xk.1 hi).1;omega
   have h8:=hrk i r hil hi hk;have hn:=hs.2.2;rw [List.Nodup,List.pairwise_iff_getElem] at hn;have e1:(es.toList.map (·.key))[i]'(by simpa using hil) = .int .i64 k:=by simp [h8]
   have e2:(es.toList.map (·.key))[j]'(by simpa using hjl) = .int .i64 k:=by simp [hen,h3]
   rcases Nat.lt_or_gt_of_ne hij with hlt | hlt
   ·exact hn i j (by simpa using hil) (by simpa using hjl) hlt (e1.trans e2.symm)
   ·exact hn j i (by simpa using hjl) (by simpa using hil) hlt (e2.trans e1.symm)
  refine .inr ⟨j,en,row,h1,hj,h4,h3,by rw [h5];rfl,?_,huniq⟩;have hjk:j < kvs.length:=by omega
  have hrow:kvs[j]=row:=(Xk.1 h4).2
  have:kvs.find? (fun r=>Zl r == Xa k)=Xa kvs[j]:=by
   rw [List.find?_eq_some_iff_getElem];refine ⟨by rw [hrow,h5];simp [Zl],j,hjk,rfl,fun i hi=>?_⟩;have:=huniq i kvs[i] (Xp (by omega)) (by omega);simpa using this
  rw [this,hrow]
def JL (w:World) (b:Nat) (o:Obj):World:={ w with heap:=w.heap.setIfInBounds b o }
theorem VZ {w:World} {b:Nat} {o o':Obj} (h:w.heap[b]? = Xa o):(JL w b o').heap[b]? = Xa o':=(heap_set (o':=o') h).1
theorem YA {w:World} {b b':Nat} {o:Obj} (hb:b'≠b):(JL w b o).heap[b']? = w.heap[b']?:=by
 unfold JL;simp [Ne.symm hb]
theorem Zhk {w:World} {lim:Lm} {b:Nat} {es es':Array MapEntry} {clock clock':Nat} (h:w.heap[b]? = Xa (.map es clock)) (hl:lim b=0):Jh w lim (JL w b (.map es' clock')) lim (fun b'=>b'=b):=by
 refine ⟨rfl,rfl,rfl,by simp [JL],fun a ha=>?_,fun b' _ hb=>⟨YA hb,rfl⟩,⟨fun b' _=>⟨Xy _,fun o u ho hu=>?_⟩,fun _ _ h=>h⟩,rfl⟩
 ·by_cases hb:a.block=b
  ·unfold World.frozen?;rw [hb,h,VZ h]
  ·unfold World.frozen?;rw [YA hb]
 ·by_cases hb:b'=b
  ·subst hb;omega
  ·unfold World.cell? at hu ⊢;rw [YA hb];exact hu
theorem map_at {c:Ctx} {σ:Nat→AV} {tm:Array Value} {w:World} {lim:Lm} {X:Nat→Nat→Option Nat} (h:Sim c σ tm w lim X) {d:Nat} {e:TypeId} {kvs:List (List AV)} {tl:List AV} (hd:σ d = .own Xb e [.slice Xe 2 kvs::tl]) (h0:c.P.cellsOf e=0) (hks:(ZbX c.P (e-1048576)).isSome=Xb) :
  Zm c.P e=Xb∧∃ b es clock,X d 0=Xa b∧tm.getD d undef = .map (Xa b)∧w.heap[b]? = Xa (.map es clock)∧lim b=0∧es.size=kvs.length∧Stamped es clock∧
   ∃ et,ZbX c.P (e-1048576)=Xa et∧∀ (i:Nat) (en:MapEntry) (row:List AV),es[i]? = Xa en→kvs[i]? = Xa row→Zr6 c.P w lim et en row:=by
 have hr:=h.rel d;rw [hd] at hr;rcases (show Jv c.P w lim Xb e _ _ (X d 0) from hr) with ⟨us,_,_,_,h4,_⟩ | ⟨h1,_⟩ | ⟨_,⟨hm,b,es,clock,kvs',et,het,h1,h2,h3,h4,⟨tl',h5⟩,h6,h7,h8⟩ | ⟨hd',_⟩ | ⟨_,_,_,_,_,_,⟨_,hk',_⟩,_⟩⟩
 ·have:=h4 _ (List.mem_singleton.2 rfl);rw [h0] at this
  cases this
 ·cases h1
 ·simp only [List.cons.injEq,AV.slice.injEq,true_and,and_true] at h5;obtain ⟨rfl,rfl⟩:=h5;exact ⟨hm,b,es,clock,h1,h2,h3,h4,h6,h7,et,het,h8⟩
 ·rw [ZdC hd'] at hks;cases hks
 ·rw [hk'] at hks;cases hks
theorem Zqy {kvs:List (List AV)} {k:Int} {cl:AV} {j:Nat} {row:List AV} (hj:kvs[j]? = Xa row) (hk:Zl row=Xa k) (hu:∀ i r,kvs[i]? = Xa r→i≠j→Zl r≠Xa k) :
  ∀ i r,(Yz kvs k cl)[i]? = Xa r→if i=j then r = [.val (.int .i64 k),cl] else kvs[i]? = Xa r∧Zl r≠Xa k:=by
 have hany:(kvs.any fun r=>Zl r == Xa k)=Xb:=Ud.2 ⟨row,Xm hj,by simp [hk]⟩;intro i r hi;rw [Yz,if_pos hany,Xl] at hi
 cases hr:kvs[i]? with
 | none => rw [hr] at hi; cases hi
 | some r0 =>
  rw [hr] at hi;simp only [Xw,Xf] at hi;by_cases hij:i=j
  ·subst hij;rw [hj] at hr
   cases hr
   rw [if_pos rfl,← hi,if_pos (by simp [hk])]
  ·rw [if_neg hij];have:=hu i r0 hr hij;rw [if_neg (by simpa using this)] at hi;subst hi;exact ⟨rfl,this⟩
theorem Zth {kvs:List (List AV)} {k:Int} {cl:AV} {j:Nat} {row:List AV} (hj:kvs[j]? = Xa row) (hk:Zl row=Xa k):(Yz kvs k cl).length=kvs.length:=by
 have hany:(kvs.any fun r=>Zl r == Xa k)=Xb:=Ud.2 ⟨row,Xm hj,by simp [hk]⟩;rw [Yz,if_pos hany,Xr]
theorem put_new {kvs:List (List AV)} {k:Int} {cl:AV} (h:∀ r∈kvs,Zl r≠Xa k):Yz kvs k cl=kvs++[[.val (.int .i64 k),cl]]:=by
 have hany:¬ (kvs.any fun r=>Zl r == Xa k)=Xb:=by
  rw [Ud];rintro ⟨r,hr,hk⟩;exact h r hr (by simpa using hk)
 rw [Yz,if_neg hany]
theorem Zpn {w:World} {lim:Lm} (o:Obj) (S:Nat→Prop):Jh w lim (w.alloc o) ⟨fun b=>if b=w.heap.size then 0 else lim b,lim.t⟩ S where
 os:=rfl
 tape:=rfl
 output:=rfl
 size:=by simp
 frz a ha:=by
  unfold World.frozen?;rw [heap_alloc_old w o ha]
 blk b hb _:=⟨heap_alloc_old w o hb,if_neg (by omega)⟩
 ext:=⟨fun b hb=>⟨by show lim b≤if b=w.heap.size then 0 else lim b;rw [if_neg (by omega)];exact Xy _,fun o' u _ hu=>by
  unfold World.cell? at hu ⊢;rw [heap_alloc_old w o hb];exact hu⟩,fun _ _ h=>h⟩
def VU (x:MapEntry):Int:=match x.key with | .int _ z=>z | _=>0
def Za8 (P:Program) (ks:List (FuncId×FuncId×FuncId)):Prop:=
 ∀ p∈ks,Callable P p.1∧Callable P p.2.1∧
  (∀ (b:Nat) (w:World),Calls P p.1 #[.map (Xa b)] w fun e w'=>e = .returned (.func (.func p.2.2) #[] #[.pointer (Xa ⟨w.heap.size,0,Xc⟩)])∧∃ T,w'=w.alloc (.cells #[.map (Xa b)] T))∧
  ∀ (w:World) (B b:Nat) (es:Array MapEntry) (clock:Nat),w.cell? ⟨B,0,Xc⟩=Xa (.map (Xa b))→w.heap[b]? = Xa (.map es clock)→Stamped es clock→es.size≤1048576→
   (∀ x∈es.toList,∃ z:Int,x.key = .int .i64 z∧-9223372036854775808≤z∧z≤9223372036854775807)→
   Calls P p.2.1 #[.func (.func p.2.2) #[] #[.pointer (Xa ⟨B,0,Xc⟩)]] w fun e w'=>∃ v et,e = .returned v∧
    w'.ownsRow w.heap.size et 1 v es.size (((es.toList.map VU).mergeSort fun x y=>decide (x≤y)).map (Value.int .i64))∧Below w.heap.size w w'
theorem Zjm {w w':World} {lim:Lm} {N:Nat} (h:Below w.heap.size w w') (S:Nat→Prop):Jh w lim w' ⟨fun b=>if b < w.heap.size then lim b else N,lim.t⟩ S where
 os:=h.os
 tape:=h.tape
 output:=h.output
 size:=h.size
 frz a ha:=by
  unfold World.frozen?;rw [h.block _ ha]
 blk b hb _:=⟨h.block b hb,if_pos hb⟩
 ext:=⟨fun b hb=>⟨by dsimp only;rw [if_pos hb];exact Xy _,fun o' u _ hu=>by
  unfold World.cell? at hu ⊢;rw [h.block b hb];exact hu⟩,fun _ _ h=>h⟩
theorem Zh4:∀ (zs:List Int),(zs.map fun z=>[AV.val (.int .i64 z)]).flatten=zs.map fun z=>AV.val (.int .i64 z)
 | [] => rfl
 | z :: zs => by rw [Xh, X9, Zh4 zs]; rfl
theorem Jh.sub {w:World} {lim:Lm} {w':World} {lim':Lm} {S S':Nat→Prop} (h:Jh w lim w' lim' S) (hs:∀ b,S b→S' b):Jh w lim w' lim' S':=
 ⟨h.os,h.tape,h.output,h.size,h.frz,fun b hb hn=>h.blk b hb fun hh=>hn (hs b hh),h.ext,h.t⟩
theorem VJ {α:Type} (zs vs:List α) (off:Nat) (h:off+vs.length≤zs.length) (j:Nat):(zs.take off++vs++zs.drop (off+vs.length))[j]? = if off≤j∧j < off+vs.length then vs[j-off]? else zs[j]?:=by
 have l1:(zs.take off).length=off:=by rw [XU];omega
 rw [Xo];rcases XG j off with hlt | hge
 ·rw [Xx (by omega),List.getElem?_take_of_lt hlt,if_neg (by omega)]
 ·rw [Xz (by omega),l1];rcases XG (j-off) vs.length with hlt | hge'
  ·rw [Xx hlt,if_pos (by omega)]
  ·rw [Xz hge',XP,if_neg (by omega)];congr 1;omega
theorem Zg0.lim0 {P:Program} {w:World} {lim:Lm} {e:TypeId} {xs:List (List AV)} {v:Value} {b:Nat} (h:Zg0 P w lim Xb e xs v (Xa b)):lim b=0:=by
 rcases h with ⟨us,_,_,h,_⟩ | ⟨_,h,_⟩
 ·exact h b rfl
 ·cases h
def Zby (P:Program) (srt:List FuncId):Prop:=
 ∀ f∈srt,Callable P f∧(∀ (p:Option Addr) (cap:Nat) (w:World),Calls P f #[.slice p 0 cap] w fun e w'=>e = .returned (.tuple #[])∧w'=w)∧
  ∀ (w:World) (lim:Lm) (b cap:Nat) (arr:Array Value) (e:TypeId) (zs:List Int),zs≠[]→zs.length≤1048576→zs.length≤cap→cap≤maxLen→arr.size=cap→w.heap[b]? = Xa (.cells arr e (0,0))→lim b=0→arr.toList.take zs.length=zs.map (Value.int .i64)→
   Calls P f #[.slice (Xa ⟨b,0,Xc⟩) zs.length cap] w fun e' w'=>e' = .returned (.tuple #[])∧∃ arr',w'.heap[b]? = Xa (.cells arr' e (0,0))∧arr'.size=arr.size∧
    arr'.toList.take zs.length=(zs.mergeSort fun x y=>decide (x≤y)).map (Value.int .i64)∧Jh w lim w' lim (fun b'=>b'=b)
open Go.MapKept
def ZvH (A:Nat→List V→Prop) (n:Nat) (B:List V→Prop):Nat→List V→Prop:=fun i vs=>if i=n then B vs else A i vs
def STree.wp (P:Program) (R:AV→List AV→Prop):STree→(Nat→List V→Prop)→(Nat→V)→Prop
 | .stuck _, _, _ => False
 | .branch b t e, A, ρ => (b.den ρ = Xb → t.wp P R A ρ) ∧ (b.den ρ = Xe → e.wp P R A ρ)
 | .req p t, A, ρ => p.den ρ ∧ t.wp P R A ρ
 | .elem l i sh n t, A, ρ => ∃ vs, 0 ≤ i.den ρ ∧ (l.den ρ)[(i.den ρ).toNat]? = Xa ((ZH sh n).map (SC.den (bind ρ n vs))) ∧ t.wp P R A (bind ρ n vs)
 | .nilq l n t, A, ρ => ∀ b : Bool, (b = Xb → l.den ρ = []) → t.wp P R A (bind ρ n [.b b])
 | .call f args res outs n _ t, A, ρ => ∃ vs, JN P f (args.map (SV.den ρ)) (res.den (bind ρ n vs)) (outs.map (SV.den (bind ρ n vs))) ∧ t.wp P R A (bind ρ n vs)
 | .loop lv init n t, A, ρ => ∃ (I : List V → Prop) (m : List V → Nat), I (init.map (VE.den ρ)) ∧
   ∀ vs,vs.length=init.length→I vs→t.wp P R (ZvH A lv fun vs'=>I vs'∧m vs' < m vs) (bind Zhx n vs)
 | .again lv vals, A, ρ => A lv (vals.map (VE.den ρ))
 | .ret res outs, _, ρ => R (res.den ρ) (outs.map (SV.den ρ))
def Kl:List Sh→List Value→Prop
 | [], [] => True
 | .int k :: L, .int k' _ :: us => k = k' ∧ Kl L us
 | .bool :: L, .bool _ :: us => Kl L us
 | _, _ => False
def eqV:List Value→List Value→Bool
 | .int _ a :: us, .int _ b :: vs => (a == b) && eqV us vs
 | .bool a :: us, .bool b :: vs => (a == b) && eqV us vs
 | _, _ => Xb
def Zai (P:Program) (plain:List TypeId):Prop:=
 ∀ T∈plain,P.eqGuardType P.depth T=Xe∧∀ L,Kx P 8 T=Xa L→∀ (us vs:List Value),Kl L us→Kl L vs→∀ w,
  (Op.equalIn 10000 T (.agg us.toArray) (.agg vs.toArray)).run P w = .ok (eqV us vs) w
def EnvSound (P:Program) (E:Env):Prop:=Zai P E.plain∧Za8 P E.ks∧Zby P E.srt
theorem Zje {P:Program} {R:AV→List AV→Prop} {A:Nat→List V→Prop} {ρ:Nat→V} {b:BE} {t e:STree} (h:(Zgo b t e).wp P R A ρ) :
  (b.den ρ=Xb→t.wp P R A ρ)∧(b.den ρ=Xe→e.wp P R A ρ):=by
 unfold Zgo at h;split at h
 ·exact ⟨fun _=>h,fun hb=>by simp [BE.den] at hb⟩
 ·exact ⟨fun hb=>by simp [BE.den] at hb,fun _=>h⟩
 ·exact h
theorem Zpx (b:BE) (ρ:Nat→V):(Zpq b).den ρ = !b.den ρ:=by unfold Zpq;split<;>rfl
theorem ZqA {b:BE} {n:Nat} (h:b.bd n):(Zpq b).bd n:=by
 unfold Zpq;split
 ·trivial
 ·exact h
theorem ZbV {v:Value} (ρ:Nat→V):(ofC v).map (SC.den ρ)=Zqe v:=by
 cases v with
 | slice a l c => cases a <;> cases l <;> cases c <;> rfl
 | pointer a => cases a <;> first | rfl | simp [ofC, Zqe, SC.den, LE.den, lop, Zc, Zd, ZP]
 | map a => cases a <;> first | rfl | simp [ofC, Zqe, SC.den, LE.den, lop, Zc, Zd, ZP]
 | nilFunc => simp [ofC, Zqe, SC.den, LE.den, lop, Zc, Zd, ZP]
 | _ => rfl
theorem YF (ρ:Nat→V):∀ (vs:List Value),(Zfp vs).map (List.map (SC.den ρ))=ZaL vs
 | [] => rfl
 | v :: vs => by
  have h1:=ZbV (v:=v) ρ;have h2:=YF ρ vs;simp only [Zfp,ZaL]
  cases hc:ofC v<;>cases hcs:Zfp vs<;>rw [hc] at h1<;>rw [hcs] at h2<;>simp at h1 h2<;>rw [← h1]<;>try rw [← h2]
  ·simp
  ·simp
  ·simp
  ·simp
theorem Zsi {v:Value} {c:SC} {n:Nat} (h:ofC v=Xa c):c.bd n:=by
 unfold ofC at h;split at h<;>simp at h<;>subst h<;>trivial
theorem KO {n:Nat} : ∀ {vs:List Value} {cs:List SC},Zfp vs=Xa cs→∀ c∈cs,c.bd n
 | [], cs, h => by simp [Zfp] at h; subst h; simp
 | v :: vs, cs, h => by
  simp only [Zfp] at h;split at h
  ·rename_i c cs' hc hcs;simp at h;subst h;intro x hx;rcases Xq.1 hx with rfl | hx
   ·exact Zsi hc
   ·exact KO hcs x hx
  ·simp at h
theorem Ztr (v:Value) (ρ:Nat→V):(ofV v).den ρ=Zp2 v:=by
 cases v with
 | agg cs =>
  have:=YF ρ cs.toList;simp only [ofV,Zp2];rw [← this]
  cases Zfp cs.toList<;>rfl
 | slice a l c =>
  have:=ZbV (v:=.slice a l c) ρ;simp only [ofV,Zp2];rw [← this]
  cases ofC (.slice a l c)<;>rfl
 | pointer a =>
  have:=ZbV (v:=.pointer a) ρ;simp only [ofV,Zp2];rw [← this]
  cases ofC (.pointer a)<;>rfl
 | map a =>
  have:=ZbV (v:=.map a) ρ;simp only [ofV,Zp2];rw [← this]
  cases ofC (.map a)<;>rfl
 | nilFunc =>
  have:=ZbV (v:=.nilFunc) ρ;simp only [ofV,Zp2];rw [← this]
  cases ofC .nilFunc<;>rfl
 | _ => rfl
theorem Zup (v:Value) (n:Nat):(ofV v).bd n:=by
 unfold ofV;split
 ·split
  ·rename_i l hl;exact KO hl
  ·trivial
 ·split
  ·rename_i c hc;exact Zsi (v:=v) hc
  ·trivial
theorem Yc (P:Program) (g:Nat→SV) (ρ:Nat→V) (x:Operand):(Jk P g x).den ρ=Zo P (fun d=>(g d).den ρ) x:=by
 cases x with
 | tmp t =>
  simp only [Jk,Zo]
  cases g t with
  | c x =>
   cases x with
   | cel p =>
    show Zd (p.den ρ)=match Zd (p.den ρ) with | .box _=>AV.ptr t 0 | .own x e xs=>(match x with | true=>.mref t 0 | false=>.slice Xe (P.cellsOf e) xs) | .tuple _=>.dead | .aggo _=>.dead | .gbox _=>.dead | .store _=>.dead | x=>x;rcases Yx (p.den ρ) with ⟨_,_,h⟩ | ⟨_,_,_,h⟩ | ⟨_,h⟩ | ⟨_,_,h⟩ <;> rw [h]
   | _ => rfl
  | own x e xs => cases x <;> rfl
  | _ => rfl
 | const v => exact Ztr v ρ
 | global g => rfl
 | func f => rfl
theorem ZA {P:Program} {g:Nat→SV} {n:Nat} (hg:∀ d,(g d).bd n) (x:Operand):(Jk P g x).bd n:=by
 cases x with
 | tmp t =>
  have:=hg t;simp only [Jk]
  cases hs:g t with
  | own x e xs => rw [hs] at this; cases x <;> first | exact this | trivial
  | _ => rw [hs] at this; first | exact this | trivial
 | const v => exact Zup v n
 | global g => trivial
 | func f => trivial
theorem Zg {P:Program} {g:Nat→SV} {x:Operand} {y:SV} (ρ:Nat→V) (h:Jk P g x=y):Zo P (fun d=>(g d).den ρ) x=y.den ρ:=by rw [← Yc,h]
def YV (tx:Odr) (P:Program) (R:AV→List AV→Prop) (A:Nat→List V→Prop) (ρ:Nat→V) (g:Nat→SV) (o:Oper) (n:Nat) (k:K):Prop:=
 ∃ ρ' n' x us fp,n≤n'∧(∀ m,m < n→ρ' m=ρ m)∧x.bd n'∧(∀ u∈us,u.2.bd n')∧(k x us fp n').wp P R A ρ'∧
  Zj1 tx P o (fun d=>(g d).den ρ) (x.den ρ') (us.map fun u=>(u.1,u.2.den ρ')) fp
section
variable {tx:Odr} {P:Program} {R:AV→List AV→Prop} {A:Nat→List V→Prop} {ρ:Nat→V} {g:Nat→SV} {o:Oper} {n:Nat} {k:K}
theorem ZhF {x:SV} {us:Ups} {fp:List Nat} (hk:(k x us fp n).wp P R A ρ) (hx:x.bd n) (hus:∀ u∈us,u.2.bd n)
  (hex:Js P o (fun d=>(g d).den ρ) (x.den ρ) (us.map fun u=>(u.1,u.2.den ρ)) fp):YV tx P R A ρ g o n k:=
 ⟨ρ,n,x,us,fp,Xy _,fun _ _=>rfl,hx,hus,hk,hex.t.s⟩
theorem ZcK {x:SV} {us:Ups} {fp:List Nat} (hk:(k x us fp n).wp P R A ρ) (hx:x.bd n) (hus:∀ u∈us,u.2.bd n)
  (hex:Ku tx P o (fun d=>(g d).den ρ) (x.den ρ) (us.map fun u=>(u.1,u.2.den ρ)) fp):YV tx P R A ρ g o n k:=
 ⟨ρ,n,x,us,fp,Xy _,fun _ _=>rfl,hx,hus,hk,hex.s⟩
theorem Ja {x:SV} {fp:List Nat} (hk:(k x [] fp n).wp P R A ρ) (hx:x.bd n) (hex:Js P o (fun d=>(g d).den ρ) (x.den ρ) [] fp):YV tx P R A ρ g o n k:=
 ZhF hk hx (by simp) hex
def Zf4 (ρ:Nat→V):SC→Value
 | .int k e => .int k (e.den ρ)
 | .bool b => .bool (b.den ρ)
 | .str s => .string (s.den ρ)
 | .slice _ _ _ => .slice Xc 0 0
 | .cel _ => .slice Xc 0 0
theorem Zeh (ρ:Nat→V):∀ (L:List Sh) (cs:List SC),ZaX L cs=Xb→Kl L (cs.map (Zf4 ρ))∧cs.map (SC.den ρ)=(cs.map (Zf4 ρ)).map AV.val∧∀ u∈cs.map (Zf4 ρ),ZfH u=Xb
 | [], [], _ => ⟨trivial, rfl, by simp⟩
 | [], _ :: _, h => by simp [ZaX] at h
 | _ :: _, [], h => by simp [ZaX] at h
 | s :: L, c :: cs, h => by
  simp only [ZaX,Xs] at h;obtain ⟨h1,h2,h3⟩:=Zeh ρ L cs h.2;have h0:=h.1
  cases s<;>cases c<;>simp [ZrQ] at h0
  ·refine ⟨⟨h0,h1⟩,by simp only [Xh,h2];rfl,?_⟩;intro u hu;rw [Xh] at hu;rcases Xq.1 hu with rfl | hu
   ·rfl
   ·exact h3 u hu
  ·refine ⟨h1,by simp only [Xh,h2];rfl,?_⟩;intro u hu;rw [Xh] at hu;rcases Xq.1 hu with rfl | hu
   ·rfl
   ·exact h3 u hu
theorem ZdQ (ρ:Nat→V):∀ (xs ys:List SC) (e:BE),ZcG xs ys=Xa e→e.den ρ=eqV (xs.map (Zf4 ρ)) (ys.map (Zf4 ρ))
 | [], [], e, h => by simp [ZcG] at h; subst h; rfl
 | [], _ :: _, e, h => by simp [ZcG] at h
 | _ :: _, [], e, h => by simp [ZcG] at h
 | a :: aZ, b :: bs, e, h => by
  simp only [ZcG] at h;split at h
  ·rename_i x y hx hy;simp at h;subst h;have ih:=ZdQ ρ aZ bs y hy
   cases a<;>cases b<;>simp [ZnX] at hx
   ·obtain ⟨_,rfl⟩:=hx;simp only [BE.den,Xh,Zf4,eqV,ih,cop]
   ·subst hx;simp only [BE.den,Xh,Zf4,eqV,ih]
  ·simp at h
theorem Zkr {n:Nat} : ∀ (xs ys:List SC) (e:BE),(∀ c∈xs,c.bd n)→(∀ c∈ys,c.bd n)→ZcG xs ys=Xa e→e.bd n
 | [], [], e, _, _, h => by simp [ZcG] at h; subst h; trivial
 | [], _ :: _, e, _, _, h => by simp [ZcG] at h
 | _ :: _, [], e, _, _, h => by simp [ZcG] at h
 | a :: aZ, b :: bs, e, hx, hy, h => by
  simp only [ZcG] at h;split at h
  ·rename_i x y hx' hy';simp at h;subst h;have ih:=Zkr aZ bs y (fun c hc=>hx c (by simp [hc])) (fun c hc=>hy c (by simp [hc])) hy';have ha:=hx a (by simp);have hb:=hy b (by simp)
   cases a<;>cases b<;>simp [ZnX] at hx'
   ·obtain ⟨_,rfl⟩:=hx';exact ⟨⟨ha,hb⟩,ih⟩
   ·subst hx';exact ⟨⟨ha,hb⟩,ih⟩
  ·simp at h
theorem Zkk {w:World} {lim:Lm} {us:List Value} {v:Value} (h:Rep w lim (.agg (us.map AV.val)) v):v = .agg us.toArray:=by
 have key:∀ y,Rep w lim y v→y = .agg (us.map AV.val)→v = .agg us.toArray:=by
  intro y hy he
  cases hy with
  | @agg cs vs hl hc hr =>
   injection he with he;subst he;have hlen:us.length=vs.length:=by simpa using hl
   have:vs=us:=by
    apply List.ext_getElem hlen.symm;intro i h1 h2;exact YU (hr i (.val us[i]) vs[i] (by simp [h2]) (by simp [h1]))
   rw [this]
  | val _ => cases he
  | sliceN => cases he
  | sliceE _ => cases he
  | sliceC _ _ _ _ _ _ _ _ => cases he
  | nest => cases he
  | oref0 => cases he
  | oref => cases he
  | osl0 => cases he
  | osl => cases he
  | omap => cases he
  | fnc => cases he
  | omap0 => cases he
  | fncN => cases he
 exact key _ h rfl
theorem Zd1 {T T':TypeId} {x y:Operand} {op:BinOp} {us vs:List Value} {σ:Nat→AV} {L:List Sh} {plain:List TypeId} (hps:Zai P plain) (hT:T∈plain) (hL:Kx P 8 T=Xa L) (ho:o.op = .binOp op T x y T')
  (hop:op = .eql∨op = .neq) (hx:Zo P σ x = .agg (us.map AV.val)) (hy:Zo P σ y = .agg (vs.map AV.val)) (hu:Kl L us) (hv:Kl L vs) :
  Js P o σ (.val (.bool (if op = .eql then eqV us vs else !eqV us vs))) [] []:=by
 refine Zq [] rfl fun c hc σ' tm w lim X hg hfp hsim=>⟨.bool (if op = .eql then eqV us vs else !eqV us vs),?_,.val rfl⟩;rw [ho] at hg;have h1:=Zkk (Yf hc hsim hx (hg x (by simp [Op.operands])));have h2:=Zkk (Yf hc hsim hy (hg y (by simp [Op.operands])));obtain ⟨p1,p2⟩:=hps T hT;have p3:=p2 L hL us vs hu hv w;rcases hop with rfl | rfl
 ·simp only [execOp,ho,h1,h2,Sem.run_bind,run_eqGuard_agg w .eql T x y us.toArray vs.toArray p1,Result.andThen_ok,run_eql_struct,p3];simp
 ·simp only [execOp,ho,h1,h2,Sem.run_bind,run_eqGuard_agg w .neq T x y us.toArray vs.toArray p1,Result.andThen_ok,run_neq_struct,p3];simp
theorem Zoo {plain:List TypeId} {op:BinOp} {T T':TypeId} {xo yo:Operand} (hps:Zai P plain) (hg:∀ d,(g d).bd n) (ho:o.op = .binOp op T xo yo T')
  (h:(bin P plain op T (Jk P g xo) (Jk P g yo) fun v=>k v [] [] n).wp P R A ρ):YV tx P R A ρ g o n k:=by
 have bx:=ZA (P:=P) hg xo;have bY:=ZA (P:=P) hg yo;generalize hx:Jk P g xo=x at h bx;generalize hy:Jk P g yo=y at h bY;have sx:=Zg ρ hx;have sy:=Zg ρ hy;unfold bin at h;split at h
 ·rename_i kx a ky b
  have arith:∀ (i:IOp),kx=ky→Ztf op=Xa i→(i = .quo∨i = .rem→b.den ρ≠0)→(k (.c (.int kx (.bin i kx a b))) [] [] n).wp P R A ρ→YV tx P R A ρ g o n k:=by
   intro i hk hi hz hk';subst hk;exact Ja hk' ⟨bx,bY⟩ (Zrk ho hi sx sy hz)
  have comp:∀ (i:COp),kx=ky→ZtG op=Xa i→(k (.c (.bool (.cmp i a b))) [] [] n).wp P R A ρ→YV tx P R A ρ g o n k:=by
   intro i hk hi hk';subst hk;exact Ja hk' ⟨bx,bY⟩ (ZqK ho hi sx sy)
  split at h
  ·exact Ja h.2 ⟨bx,bY⟩ (ZfG ho (.inl ⟨rfl,rfl⟩) sx sy h.1)
  ·exact Ja h.2 ⟨bx,bY⟩ (ZfG ho (.inr ⟨rfl,rfl⟩) sx sy h.1)
  ·split at h
   ·rename_i hk
    split at h<;>first
     | exact h.elim
     | exact arith _ hk rfl (by simp) h
     | exact arith _ hk rfl (fun _ => h.1) h.2
     | exact comp _ hk rfl h
   ·exact h.elim
 ·rename_i a b;split at h
  ·exact Ja h ⟨bx,bY⟩ (Zkp (op:=.eql) ho (.inl rfl) sx sy)
  ·exact Ja h ⟨bx,bY⟩ (Zkp (op:=.neq) ho (.inr rfl) sx sy)
  ·exact h.elim
 ·rename_i a b;split at h
  ·rename_i hT;split at h
   ·exact Ja h ⟨bx,bY⟩ (Zil (op:=.eql) ho hT (.inl rfl) sx sy)
   ·exact Ja h ⟨bx,bY⟩ (Zil (op:=.neq) ho hT (.inr rfl) sx sy)
   ·exact h.elim
  ·exact h.elim
 ·rename_i xs ys;split at h
  ·rename_i e hpl he;simp only [Zod,Xs,List.contains_iff_mem] at hpl;obtain ⟨hT,hk⟩:=hpl
   cases hL:Kx P 8 T with
   | none => simp [hL] at hk
   | some L =>
    rw [hL] at hk;simp only [Xs] at hk;obtain ⟨u1,u2,u3⟩:=Zeh ρ L xs hk.1;obtain ⟨v1,v2,v3⟩:=Zeh ρ L ys hk.2;have hbd:=Zkr xs ys e bx bY he;have sx':Zo P (fun d=>(g d).den ρ) xo = .agg ((xs.map (Zf4 ρ)).map AV.val):=by rw [sx,← u2];rfl
    have sy':Zo P (fun d=>(g d).den ρ) yo = .agg ((ys.map (Zf4 ρ)).map AV.val):=by rw [sy,← v2];rfl
    split at h
    ·refine Ja h hbd ?_;have:=Zd1 (o:=o) (op:=.eql) hps hT hL ho (.inl rfl) sx' sy' u1 v1;rw [if_pos rfl,← ZdQ ρ xs ys e he] at this;exact this
    ·refine Ja h hbd ?_;have:=Zd1 (o:=o) (op:=.neq) hps hT hL ho (.inr rfl) sx' sy' u1 v1;rw [if_neg (by simp),← ZdQ ρ xs ys e he] at this;exact this
    ·exact h.elim
  ·exact h.elim
 ·exact h.elim
end
theorem Yd (ρ:Nat→V) (c:SC):(c.den ρ).isCell=Xb:=by
 cases c with
 | cel p => exact J8 (JD _)
 | _ => rfl
theorem ZpB {x:AV} (h:x.isCell=Xb):x.isG=Xe:=by cases x<;>first | rfl | cases h
theorem ZmQ {x:AV} (h:x.isCell=Xb):x.plain=Xb:=by cases x<;>first | rfl | cases h
theorem ZaS (ρ:Nat→V) (c:SC):(c.den ρ).plain=Xb:=ZmQ (Yd ρ c)
theorem KD (ρ:Nat→V) (c:SC):(c.den ρ).isG=Xe:=ZpB (Yd ρ c)
theorem Vn {x:SV} {cs:List SC} (ρ:Nat→V) (h:x.cells=Xa cs):(x.den ρ).cells? = Xa (cs.map (SC.den ρ)):=by
 cases x with
 | c y =>
  simp only [SV.cells,Xf] at h;subst h
  cases y with
  | cel p =>
   show (Zd (p.den ρ)).cells? = Xa [Zd (p.den ρ)];rcases Yx (p.den ρ) with ⟨_,_,h⟩ | ⟨_,_,_,h⟩ | ⟨_,h⟩ | ⟨_,_,h⟩ <;> rw [h]<;>rfl
  | _ => rfl
 | agg ds =>
  simp only [SV.cells,Xf] at h;subst h;rfl
 | _ => simp [SV.cells] at h
theorem WZ {x:SV} {cs:List SC} {n:Nat} (h:x.cells=Xa cs) (hx:x.bd n):∀ c∈cs,c.bd n:=by
 cases x with
 | c y =>
  simp only [SV.cells,Xf] at h;subst h;intro c hc;simp at hc;subst hc;exact hx
 | agg ds =>
  simp only [SV.cells,Xf] at h;subst h;exact hx
 | _ => simp [SV.cells] at h
theorem Za5 (ρ:Nat→V) (place:Nat→Option (Nat×Nat)):∀ (parts:List (Nat×SV)) (cells out:List SC),ZeU place cells parts=Xa out→
  ZaM place (cells.map (SC.den ρ)) (parts.map fun p=>(p.1,p.2.den ρ))=Xa (out.map (SC.den ρ))
 | [], cells, out, h => by simp only [ZeU, Xf] at h; subst h; rfl
 | (i, v) :: parts, cells, out, h => by
  simp only [ZeU] at h;split at h
  ·rename_i off size vc hp hv;split at h
   ·rename_i hc;have ih:=Za5 ρ place parts _ out h;simp only [XL,Up,Ut] at ih;simp only [Xh,ZaM,hp,Vn ρ hv];rw [if_pos (by simpa using hc)];exact ih
   ·cases h
  ·cases h
theorem Zc7 {n:Nat} (place:Nat→Option (Nat×Nat)):∀ (parts:List (Nat×SV)) (cells out:List SC),(∀ c∈cells,c.bd n)→(∀ p∈parts,p.2.bd n)→ZeU place cells parts=Xa out→∀ c∈out,c.bd n
 | [], cells, out, hc, _, h => by simp only [ZeU, Xf] at h; subst h; exact hc
 | (i, v) :: parts, cells, out, hc, hp, h => by
  simp only [ZeU] at h;split at h
  ·rename_i off size vc hpl hv;split at h
   ·refine Zc7 place parts _ out (fun c hcc=>?_) (fun p hp'=>hp p (by simp [hp'])) h;rcases Xv.1 hcc with h1 | h1
    ·rcases Xv.1 h1 with h1 | h1
     ·exact hc c (XR h1)
     ·exact WZ hv (hp (i,v) (by simp)) c h1
    ·exact hc c (XY h1)
   ·cases h
  ·cases h
theorem YI (ρ:Nat→V):∀ (cs:List SC),(Zb5 cs).den ρ=cs.map (SC.den ρ)
 | [] => rfl
 | c :: cs => by simp only [Zb5, CE.den, YI ρ cs, Xh]
theorem KG {n:Nat} : ∀ (cs:List SC),(∀ c∈cs,c.bd n)→(Zb5 cs).bd n
 | [], _ => trivial
 | c :: cs, h => ⟨h c (by simp), KG cs fun x hx => h x (by simp [hx])⟩
theorem Znu (ρ:Nat→V) (size:Nat) (cs:List SC):∀ (n:Nat),(lOf size cs n).den ρ=YE size (cs.map (SC.den ρ)) n
 | 0 => rfl
 | n + 1 => by
  simp only [lOf,LE.den,Znu ρ size cs n,YI,YE,List.range_succ,XL,Xh,XF,Up,Ut]
theorem Zsf {m:Nat} (size:Nat) (cs:List SC) (h:∀ c∈cs,c.bd m):∀ (n:Nat),(lOf size cs n).bd m
 | 0 => trivial
 | n + 1 => ⟨Zsf size cs h n, KG _ fun c hc => h c (XY (XR hc))⟩
theorem Zfd (P:Program) (ρ:Nat→V) (b:BC):(ZfK P b).den ρ=YC P (b.den ρ):=by
 cases b with
 | c x =>
  cases x with
  | cel p =>
   show Zd (p.den ρ)=YC P (Zd (p.den ρ));rcases Yx (p.den ρ) with ⟨_,_,h⟩ | ⟨_,_,_,h⟩ | ⟨_,h⟩ | ⟨_,_,h⟩ <;> rw [h]<;>rfl
  | _ => rfl
 | own x e l => rfl
 | gone => rfl
theorem ZdZ {cs:List BC} (h:WS cs=Xb) (ρ:Nat→V):Zdg (cs.map (BC.den ρ)):=by
 intro c hc e xs he;obtain ⟨b,hb,rfl⟩:=Xj.1 hc;unfold WS at h;rw [XD] at h;have:=h b hb
 cases b with
 | c x => cases x <;> first | cases he | exact (Jb he rfl).elim
 | own x e l =>
  cases x with
  | false => cases he
  | true => cases this
 | gone => cases he
theorem Zew {cs:List BC} (h:Zaw cs=Xb) (ρ:Nat→V):Whole (cs.map (BC.den ρ)):=by
 intro c hc he;obtain ⟨b,hb,rfl⟩:=Xj.1 hc;unfold Zaw at h;rw [XD] at h;have:=h b hb
 cases b with
 | c x => cases x <;> first | cases he | exact (Jb he rfl).elim
 | own x e l => cases he
 | gone => cases this
theorem Zok {P:Program} {n:Nat} {b:BC} (h:b.bd n):(ZfK P b).bd n:=by
 cases b<;>exact h
theorem Zqn {P:Program} {T:TypeId} {cs:List BC} (ρ:Nat→V) (n:Nat) (h:Zt8 P T=Xa cs) :
  ∃ i z,P.info? T=Xa i∧i.zero=Xa z∧Zsr (cs.map (BC.den ρ)) z.cells.toList∧∀ c∈cs,c.bd n:=by
 unfold Zt8 at h;split at h
 ·rename_i i hi;split at h
  ·rename_i z hz;split at h
   ·rename_i sc hsc;split at h
    ·rename_i hlen;simp only [Xf] at h;subst h
     have hl:sc.length=z.cells.toList.length:=by
      have h1:=YF ρ z.cells.toList;rw [hsc] at h1;have h2:=(ZbD (w:=default) (lim:=⟨fun _=>0,fun _=>Xc⟩) h1.symm).1;simpa using h2
     refine ⟨i,z,hi,hz,⟨by simp [hlen,hl],fun j x u hx hu=>?_⟩,fun c hc=>?_⟩
     ·rw [Xl,List.getElem?_zipWith] at hx
      cases h1:(YZ P 8 T)[j]? with
      | none => simp [h1] at hx
      | some e =>
       cases h2:sc[j]? with
       | none => simp [h1, h2] at hx
       | some c =>
        simp only [h1,h2,Xw,Xf] at hx
        have hcu:ofC u=Xa c:=by
         have key:∀ (vs:List Value) (cs:List SC) (j:Nat),Zfp vs=Xa cs→cs[j]? = Xa c→vs[j]? = Xa u→ofC u=Xa c:=by
          intro vs
          induction vs with
          | nil => intro cs j _ _ h; simp at h
          | cons v vs ih =>
           intro cs j h hc hv;simp only [Zfp] at h;split at h
           ·rename_i c' cs' hc' hcs';simp only [Xf] at h;subst h
            cases j with
            | zero => simp at hc hv; subst hc; subst hv; exact hc'
            | succ j => exact ih cs' j hcs' (by simpa using hc) (by simpa using hv)
           ·cases h
         exact key _ _ j hsc h2 hu
        have hnorm:(∃ e',Zc3 e c = .own Xe e' .nil∧u = .slice Xc 0 0)∨Zc3 e c = .c c:=by
         cases e with
         | none => right; cases c <;> rfl
         | some e =>
          cases c with
          | slice f s l =>
           cases f with
           | false => right; cases l <;> rfl
           | true =>
            cases l with
            | nil =>
             left;refine ⟨e,rfl,?_⟩;unfold ofC at hcu;split at hcu<;>simp at hcu;rfl
            | _ => right; rfl
          | _ => right; rfl
        rcases hnorm with ⟨e',h3,h4⟩ | h3
        ·rw [h3] at hx;exact .inr ⟨_,e',hx.symm,h4⟩
        ·rw [h3] at hx;left;rw [← ZbV ρ,hcu,← hx];rfl
     ·obtain ⟨j,hj⟩:=XO.1 hc;rw [List.getElem?_zipWith] at hj
      cases h1:(YZ P 8 T)[j]? with
      | none => simp [h1] at hj
      | some e =>
       cases h2:sc[j]? with
       | none => simp [h1, h2] at hj
       | some c' =>
        simp only [h1,h2,Xf] at hj;subst hj;have hb:c'.bd n:=KO hsc c' (Xm h2);unfold Zc3;split
        ·trivial
        ·exact hb
    ·cases h
   ·cases h
  ·cases h
 ·cases h
theorem Zl7 (s:Sh) (n:Nat):(Yw s n).bd (n+1):=by cases s<;>exact Uj n
theorem JQ:∀ (l:List Sh) (n:Nat),∀ c∈ZH l n,c.bd (n+l.length)
 | [], n, c, h => by simp [ZH] at h
 | s :: ss, n, c, h => by
  rcases Xq.1 h with rfl | h
  ·exact SC.bd_mono (by simp) _ (Zl7 s n)
  ·have:=JQ ss (n+1) c h;exact SC.bd_mono (by simp only [XA];omega) _ this
theorem Zra (s:Sh) (n:Nat):(ZqZ s n).bd (n+1):=by cases s<;>exact Uj n
theorem Ya:∀ (l:List Sh) (n:Nat),∀ c∈KT l n,c.bd (n+l.length)
 | [], n, c, h => by simp [KT] at h
 | s :: ss, n, c, h => by
  rcases Xq.1 h with rfl | h
  ·exact BC.bd_mono (by simp) _ (Zra s n)
  ·have:=Ya ss (n+1) c h;exact BC.bd_mono (by simp only [XA];omega) _ this
theorem YJ:∀ (aZ:List SV) (n:Nat),n≤(Jd aZ n).2.2
 | [], n => Xy n
 | a :: aZ, n => by
  cases a with
  | box cs =>
   simp only [Jd];exact XI (XX _ _) (YJ aZ _)
  | gbox cs =>
   simp only [Jd];exact XI (XX _ _) (YJ aZ _)
  | store l =>
   simp only [Jd];exact XI (XX _ _) (YJ aZ _)
  | _ => exact YJ aZ n
theorem Ze3:∀ (aZ:List SV) (n:Nat),(Jd aZ n).1.length=aZ.length
 | [], n => rfl
 | a :: aZ, n => by
  cases a<;>simp only [Jd,XA,Ze3 aZ]
theorem WO:∀ (aZ:List SV) (n:Nat),∀ x∈(Jd aZ n).1,x.bd (Jd aZ n).2.2
 | [], n, x, h => by simp [Jd] at h
 | a :: aZ, n, x, h => by
  cases a with
  | box cs =>
   simp only [Jd] at h ⊢;rcases Xq.1 h with rfl | h
   ·intro c hc;have h1:=Ya (cs.map ZqN) n c hc;exact BC.bd_mono (YJ aZ _) _ h1
   ·exact WO aZ _ x h
  | gbox cs =>
   simp only [Jd] at h ⊢;rcases Xq.1 h with rfl | h
   ·intro c hc;have h1:=Ya (cs.map ZqN) n c hc;exact BC.bd_mono (YJ aZ _) _ h1
   ·exact WO aZ _ x h
  | store l =>
   simp only [Jd] at h ⊢;rcases Xq.1 h with rfl | h
   ·exact YJ aZ _
   ·exact WO aZ _ x h
  | _ =>
   simp only [Jd] at h ⊢;rcases Xq.1 h with rfl | h
   ·trivial
   ·exact WO aZ _ x h
theorem Vp:∀ (aZ:List SV) (n i:Nat) (to:Bool) (cs:List BC) (y:SV),aZ[i]? = Xa (ZpZ to cs)→(Jd aZ n).1[i]? = Xa y→∃ cs',y=ZpZ to cs'
 | [], n, i, to, cs, y, h, _ => by simp at h
 | a :: aZ, n, i, to, cs, y, h, h' => by
  cases i with
  | zero =>
   simp only [XB,Xf] at h;subst h
   cases to with
   | false =>
    simp only [ZpZ,Jd,XB,Xf] at h';exact ⟨_,h'.symm⟩
   | true =>
    simp only [ZpZ,Jd,XB,Xf] at h';exact ⟨_,h'.symm⟩
  | succ i =>
   have h1:aZ[i]? = Xa (ZpZ to cs):=by simpa using h
   cases a with
   | box ds => simp only [Jd, XQ] at h'; exact Vp aZ _ i to cs y h1 h'
   | gbox ds => simp only [Jd, XQ] at h'; exact Vp aZ _ i to cs y h1 h'
   | store l => simp only [Jd, XQ] at h'; exact Vp aZ _ i to cs y h1 h'
   | _ => simp only [Jd, XQ] at h'; exact Vp aZ _ i to cs y h1 h'
theorem Zql (r:RSh) (n:Nat):(ZtT r n).1.bd (n+(ZtT r n).2.length):=by
 cases r with
 | c s => cases s <;> exact Uj n
 | agg l => exact JQ l n
 | box l => exact JQ l n
 | aggo l => exact JQ l n
theorem ZaZ {P:Program} {fresh:Nat} : ∀ (Ts:List TypeId) (n:Nat) (vs:List TC) (sh:List Sh) (n':Nat),ZbF P fresh Ts n=Xa (vs,sh,n')→n≤n'∧∀ v∈vs,v.bd n'∧v≠.gone
 | [], n, vs, sh, n', h => by
  simp only [ZbF,Xf,Xt] at h;obtain ⟨rfl,rfl,rfl⟩:=h;exact ⟨Xy _,by simp⟩
 | T :: Ts, n, vs, sh, n', h => by
  simp only [ZbF] at h;split at h
  ·rename_i r hr;split at h
   ·rename_i vs' sh' m hm;simp only [Xf,Xt] at h;obtain ⟨rfl,rfl,rfl⟩:=h;obtain ⟨h1,h2⟩:=ZaZ Ts _ vs' sh' m hm;refine ⟨by omega,fun v hv=>?_⟩;rcases Xq.1 hv with rfl | hv
    ·exact ⟨TC.bd_mono h1 _ (Zql r n),by cases r with | c s=>cases s<;>exact fun h=>(by cases h) | agg l=>exact fun h=>(by cases h) | box l=>exact fun h=>(by cases h) | aggo l=>exact fun h=>(by cases h)⟩
    ·exact h2 v hv
   ·cases h
  ·cases h
theorem ZcY (ρ:Nat→V) (x:TC):(ZvC x).den ρ=x.den ρ:=by cases x<;>rfl
theorem ZtJ {n:Nat} {x:TC} (h:x.bd n):(ZvC x).bd n:=by cases x<;>exact h
theorem Znh (ρ:Nat→V) (x:TC) (hx:x≠.gone):Zir (x.den ρ):=by
 cases x with
 | c y => cases y <;> first | exact .inl (.inl ⟨_, rfl⟩) | exact .inl (.inr (.inr (.inl ⟨_, _, _, rfl⟩))) | exact .inl (.inr (.inr (.inr (JD _))))
 | agg cs => exact .inl (.inr (.inl ⟨_, rfl⟩))
 | own x e l => exact .inr (.inl ⟨_, _, _, rfl⟩)
 | gone => exact (hx rfl).elim
theorem Zi0 {P:Program} {fresh:Nat} {Ts:List TypeId} {n n':Nat} {res:SV} {sh:List Sh} (h:ZgQ P fresh Ts n=Xa (res,sh,n')) :
  n≤n'∧res.bd n'∧∀ ρ,Zir (res.den ρ):=by
 unfold ZgQ at h;split at h
 ·rename_i x sh' m hm;simp only [Xf,Xt] at h;obtain ⟨rfl,rfl,rfl⟩:=h;obtain ⟨h1,h2⟩:=ZaZ Ts n [x] sh' m hm;exact ⟨h1,ZtJ (h2 x (by simp)).1,fun ρ=>by rw [ZcY];exact Znh ρ x (h2 x (by simp)).2⟩
 ·rename_i vs sh' m _ hm;simp only [Xf,Xt] at h;obtain ⟨rfl,rfl,rfl⟩:=h;obtain ⟨h1,h2⟩:=ZaZ Ts n vs sh' m hm;exact ⟨h1,fun v hv=>(h2 v hv).1,fun ρ=>.inr (.inr (.inl ⟨_,rfl⟩))⟩
 ·cases h
theorem Zmn {P:Program} {E:Env} {f:FuncId} {Ts:List TypeId} {n n':Nat} {res:SV} {sh:List Sh} (h:Zjh P E f Ts n=Xa (res,sh,n')) :
  n≤n'∧res.bd n'∧∀ ρ,Zir (res.den ρ):=by
 unfold Zjh at h;split at h
 ·rename_i l _;simp only [Xf,Xt] at h;obtain ⟨rfl,rfl,rfl⟩:=h;exact ⟨XX _ _,Ya l n,fun ρ=>.inr (.inr (.inr (.inr ⟨_,rfl⟩)))⟩
 ·split at h
  ·rename_i l _;simp only [Xf,Xt] at h;obtain ⟨rfl,rfl,rfl⟩:=h;exact ⟨XX _ _,Ya l n,fun ρ=>.inr (.inr (.inr (.inl ⟨_,rfl⟩)))⟩
  ·exact Zi0 h
def SAK.den (ρ:Nat→V):SAK→AK
 | .imm x => .imm (x.den ρ)
 | .own t x e l => .own t x e (l.den ρ)
 | .box d fr to cs => .box d fr to (cs.map (BC.den ρ))
 | .clo g ds gs => .clo g ds gs
 | .ref t d q j => .ref t d q j
 | .pad => .pad
 | .sto d l => .sto d (l.den ρ)
theorem ZfC:∀ (aZ:List SV) (n i:Nat) (l:LE) (y:SV),aZ[i]? = Xa (.store l)→(Jd aZ n).1[i]? = Xa y→∃ l',y = .store l'
 | [], n, i, l, y, h, _ => by simp at h
 | a :: aZ, n, i, l, y, h, h' => by
  cases i with
  | zero =>
   simp only [XB,Xf] at h;subst h;simp only [Jd,XB,Xf] at h';exact ⟨_,h'.symm⟩
  | succ i =>
   have h1:aZ[i]? = Xa (.store l):=by simpa using h
   cases a<;>(simp only [Jd,XQ] at h';exact ZfC aZ _ i l y h1 h')
theorem Ztx {ρ:Nat→V} {saks:List SAK} {i d:Nat} {rows:List (List AV)} (h:(saks.map (SAK.den ρ))[i]? = Xa (AK.sto d rows)):∃ l,saks[i]? = Xa (.sto d l):=by
 rw [Xl] at h
 cases hs:saks[i]? with
 | none => rw [hs] at h; cases h
 | some a =>
  rw [hs] at h
  cases a with
  | sto d' l =>
   simp only [Xw,SAK.den,Xf,AK.sto.injEq] at h;exact ⟨l,by rw [h.1]⟩
  | _ => cases h
theorem ZcN (ρ:Nat→V) (gh:Bool) (cs:List BC):(ZpZ gh cs).den ρ=mkB gh (cs.map (BC.den ρ)):=by cases gh<;>rfl
theorem Zsp (ρ:Nat→V) (a:SAK):(a.den ρ).av=a.sv.den ρ:=by
 cases a with
 | box d fr to cs => exact (ZcN ρ to cs).symm
 | _ => rfl
theorem ZcR (ρ:Nat→V) (a:SAK):(a.den ρ).slot=a.slot:=by cases a<;>rfl
theorem ZmT {x:SV} {ρ:Nat→V} {b:Bool} {e:TypeId} {ys:List (List AV)} (h:x.den ρ = .own b e ys):∃ l,x = .own b e l:=by
 cases x with
 | own b' e' l => simp only [SV.den, AV.own.injEq] at h; obtain ⟨rfl, rfl, _⟩ := h; exact ⟨l, rfl⟩
 | c y => cases y <;> first | cases h | exact (Jb h rfl).elim
 | _ => cases h
theorem ZjP {x:SV} {ρ:Nat→V} {d q:Nat} (h:x.den ρ = .mref d q):x = .mref d q:=by
 cases x with
 | mref d' q' => simp only [SV.den, AV.mref.injEq] at h; obtain ⟨rfl, rfl⟩ := h; rfl
 | c y => cases y <;> first | cases h | exact (Jb h rfl).elim
 | _ => cases h
theorem Zh8 {x:SV} {k:Nat} {e:TypeId} {l:LE} (ρ:Nat→V) (h:Jy x k=Xa (e,l)):Zy (x.den ρ) k=Xa (e,l.den ρ):=by
 unfold Jy at h;split at h
 ·simp only [Xf,Xt] at h;obtain ⟨rfl,rfl⟩:=h;rfl
 ·rename_i cs q;split at h
  ·rename_i e' l' hc;simp only [Xf,Xt] at h;obtain ⟨rfl,rfl⟩:=h;simp only [SV.den,Zy,Xl,hc];rfl
  ·cases h
 ·rename_i cs q;split at h
  ·rename_i e' l' hc;simp only [Xf,Xt] at h;obtain ⟨rfl,rfl⟩:=h;simp only [SV.den,Zy,Xl,hc];rfl
  ·cases h
 ·cases h
theorem ZqQ {P:Program} {g:Nat→SV} {x:Operand} {a:SAK} (ρ:Nat→V) (h:ZtC P g x=Xa a):(a.den ρ).ok P (fun d=>(g d).den ρ) (.op x)∧a.sv.isG=Xe∧∀ h ds gs,a = .clo h ds gs→gs = []:=by
 unfold ZtC at h;split at h
 ·rename_i t b e l h1 h2;simp only [Xf] at h;subst h;have hx:x = .tmp t:=by cases x<;>simp [ZY] at h1;rw [h1]
  subst hx;simp only [ZY,Xw,Xf] at h2;exact ⟨⟨rfl,by show (g t).den ρ=_;rw [h2];rfl⟩,rfl,fun _ _ _ h=>by cases h⟩
 ·rename_i hno;split at h
  ·rename_i v hv;simp only [Xf] at h;subst h;refine ⟨.inl ⟨Zg ρ hv,?_⟩,rfl,fun _ _ _ h=>by cases h⟩
   cases v<;>first | exact .inl ⟨_,rfl⟩ | exact .inr (.inr (.inl ⟨_,_,_,rfl⟩)) | exact .inr (.inr (.inr (JD _)))
  ·rename_i cs hv;simp only [Xf] at h;subst h;exact ⟨.inl ⟨Zg ρ hv,.inr (.inl ⟨_,rfl⟩)⟩,rfl,fun _ _ _ h=>by cases h⟩
  ·rename_i d hv;split at h
   ·rename_i cs hcs;split at h
    ·simp only [Xf] at h;subst h;exact ⟨⟨Zg ρ hv,by show (g d).den ρ=_;rw [hcs];rfl,rfl,rfl⟩,rfl,fun _ _ _ h=>by cases h⟩
    ·cases h
   ·cases h
  ·rename_i f ds hv;simp only [Xf] at h;subst h;exact ⟨Zg ρ hv,rfl,fun _ _ _ h=>by cases h;rfl⟩
  ·rename_i d q hv;split at h
   ·rename_i e l hp;split at h
    ·rename_i h0;simp only [Xf] at h;subst h;refine ⟨.inr ⟨d,q,e,l.den ρ,⟨Zg ρ hv,fun t e' ys hx ht=>?_⟩,Zh8 ρ hp,⟨by omega,h0.2⟩,rfl⟩,rfl,fun _ _ _ h=>by cases h⟩;obtain ⟨l',hl'⟩:=ZmT (show (g t).den ρ=_ from ht);subst hx;exact hno t Xb e' l' rfl (by simp only [ZY,Xw,hl'])
    ·cases h
   ·cases h
  ·cases h
def Kh (P:Program) (g:Nat→SV) (ρ:Nat→V) (xs:List KU) (aZ:List SAK):Prop:=
 xs.length=aZ.length∧∀ (i:Nat) (x:KU) (a:SAK),xs[i]? = Xa x→aZ[i]? = Xa a→(a.den ρ).ok P (fun d=>(g d).den ρ) x
theorem Kh.append {P:Program} {g:Nat→SV} {ρ:Nat→V} {xs ys:List KU} {aZ bs:List SAK} (h:Kh P g ρ xs aZ) (k:Kh P g ρ ys bs):Kh P g ρ (xs++ys) (aZ++bs):=by
 refine ⟨by rw [Xu,Xu,h.1,k.1],fun i x a hx ha=>?_⟩;rcases XG i xs.length with hi | hi
 ·rw [Xx hi] at hx;rw [Xx (by rw [← h.1];exact hi)] at ha;exact h.2 i x a hx ha
 ·rw [Xz hi] at hx;rw [Xz (by rw [← h.1];exact hi),← h.1] at ha;exact k.2 _ x a hx ha
def Raw (aZ:List SAK):Prop:=∀ a∈aZ,a.sv.isG=Xe∧∀ h ds gs,a = .clo h ds gs→gs = []
theorem ZqI {P:Program} {g:Nat→SV} {x:Operand} {a:SAK} (ρ:Nat→V) (h:ZcH g x=Xa a):(a.den ρ).ok P (fun d=>(g d).den ρ) (.op x)∧a.sv.isG=Xe∧(∀ h ds gs,a = .clo h ds gs→gs = [])∧∃ t d q j,a = .ref t d q j:=by
 unfold ZcH at h;split at h
 ·rename_i t d q h1 h2;simp only [Xf] at h;subst h;have hx:x = .tmp t:=by cases x<;>simp [ZY] at h1;rw [h1]
  subst hx;simp only [ZY,Xw,Xf] at h2;exact ⟨⟨rfl,by show (g t).den ρ=_;rw [h2];rfl⟩,rfl,(fun _ _ _ h=>by cases h),t,d,q,0,rfl⟩
 ·cases h
def Zvo (rf:List Nat) (g:Nat→SV) (xs:List Operand) (aZ:List SAK) (i0:Nat):Prop:=∀ (i:Nat) (a:SAK) (x:Operand),xs[i]? = Xa x→aZ[i]? = Xa a→(rf.contains (i0+i)&&(ZcH g x).isSome)=Xb→∃ t d q j,a = .ref t d q j
theorem Vj {P:Program} {g:Nat→SV} {rf:List Nat} (ρ:Nat→V):∀ (xs:List Operand) (i0:Nat) (aZ:List SAK),Zbe P g rf xs i0=Xa aZ→Kh P g ρ (xs.map .op) aZ∧Raw aZ∧Zvo rf g xs aZ i0
 | [], i0, aZ, h => by simp only [Zbe, Xf] at h; subst h; exact ⟨⟨rfl, by simp⟩, by simp [Raw], by simp [Zvo]⟩
 | x :: xs, i0, aZ, h => by
  simp only [Zbe] at h;split at h
  ·rename_i a as' ha has;simp only [Xf] at h;subst h;obtain ⟨⟨h1,h2⟩,h3,h4⟩:=Vj ρ xs (i0+1) as' has
   obtain ⟨k1,k2,k3,k4⟩:(a.den ρ).ok P (fun d=>(g d).den ρ) (.op x)∧a.sv.isG=Xe∧(∀ h ds gs,a = .clo h ds gs→gs = [])∧((rf.contains i0&&(ZcH g x).isSome)=Xb→∃ t d q j,a = .ref t d q j):=by
    split at ha
    ·obtain ⟨k1,k2,k3,k4⟩:=ZqI (P:=P) ρ ha;exact ⟨k1,k2,k3,fun _=>k4⟩
    ·rename_i hn;obtain ⟨k1,k2,k3⟩:=ZqQ ρ ha;exact ⟨k1,k2,k3,fun h=>(hn h).elim⟩
   refine ⟨⟨by simpa using h1,fun i y b hy hb=>?_⟩,fun b hb=>?_,fun i b y hy hb hc=>?_⟩
   ·cases i with
    | zero =>
     simp only [Xh,XB,Xf] at hy hb;subst hy;subst hb;exact k1
    | succ i => exact h2 i y b (by simpa using hy) (by simpa using hb)
   ·rcases Xq.1 hb with rfl | hb
    ·exact ⟨k2,k3⟩
    ·exact h3 b hb
   ·cases i with
    | zero =>
     simp only [XB,Xf] at hb hy;subst hb;subst hy;exact k4 hc
    | succ i => exact h4 i b y (by simpa using hy) (by simpa using hb) (by rw [Wu, Nat.add_comm 1 i]; exact hc)
  ·cases h
theorem ZqV {g:Nat→SV} {to:Bool} {d:Nat} {a:SAK} (ρ:Nat→V) (h:Ztk g to d=Xa a):∃ fr cs,a = .box d fr to cs∧(g d).den ρ=mkB fr (cs.map (BC.den ρ)):=by
 unfold Ztk at h;split at h
 ·rename_i cs hcs;split at h
  ·simp only [Xf] at h;exact ⟨Xe,cs,h.symm,by rw [hcs];rfl⟩
  ·cases h
 ·rename_i cs hcs;split at h
  ·simp only [Xf] at h;exact ⟨Xb,cs,h.symm,by rw [hcs];rfl⟩
  ·cases h
 ·cases h
theorem ZbJ {g:Nat→SV} {to:Bool} (ρ:Nat→V):∀ (ds:List Nat) (aZ:List SAK),Zbp g to ds=Xa aZ→aZ.length=ds.length∧∀ (i d:Nat),ds[i]? = Xa d→∃ fr cs,aZ[i]? = Xa (.box d fr to cs)∧
  (g d).den ρ=mkB fr (cs.map (BC.den ρ))
 | [], aZ, h => by simp only [Zbp, Xf] at h; subst h; exact ⟨rfl, by simp⟩
 | d :: ds, aZ, h => by
  simp only [Zbp] at h;split at h
  ·rename_i a as' ha has;simp only [Xf] at h;subst h;obtain ⟨h1,h2⟩:=ZbJ ρ ds as' has;refine ⟨by simp [h1],fun i e he=>?_⟩
   cases i with
   | zero =>
    simp only [XB,Xf] at he;subst he;obtain ⟨fr,cs,rfl,k2⟩:=ZqV ρ ha;exact ⟨fr,cs,rfl,k2⟩
   | succ i => exact h2 i e (by simpa using he)
  ·cases h
theorem Ztu {P:Program} {g:Nat→SV} (ρ:Nat→V) {ds:List Nat} {aZ:List SAK} (h:Zbp g Xe ds=Xa aZ):Kh P g ρ (ds.map .cap) aZ∧Raw aZ:=by
 obtain ⟨h1,h2⟩:=ZbJ ρ ds aZ h;refine ⟨⟨by simp [h1],fun i x a hx ha=>?_⟩,fun a ha=>?_⟩
 ·rw [Xl] at hx
  cases hd:ds[i]? with
  | none => rw [hd] at hx; cases hx
  | some d =>
   rw [hd] at hx;simp only [Xw,Xf] at hx;subst hx;obtain ⟨fr,cs,k1,k2⟩:=h2 i d hd;rw [k1] at ha;simp only [Xf] at ha;subst ha;exact ⟨rfl,k2,rfl⟩
 ·obtain ⟨i,hi⟩:=XO.1 ha;have hlt:i < ds.length:=by rw [← h1];exact (Xk.1 hi).1
  obtain ⟨fr,cs,k1,_⟩:=h2 i _ (Xp hlt);rw [k1] at hi;simp only [Xf] at hi;subst hi;exact ⟨rfl,fun _ _ _ h=>by cases h⟩
theorem Zom {P:Program} {g:Nat→SV} (ρ:Nat→V) {ds:List Nat} {aZ:List SAK} (h:Zbp g Xb ds=Xa aZ):Kh P g ρ (ds.map fun _=>.ghost) aZ:=by
 obtain ⟨h1,h2⟩:=ZbJ ρ ds aZ h;refine ⟨by simp [h1],fun i x a hx ha=>?_⟩;rw [Xl] at hx
 cases hd:ds[i]? with
 | none => rw [hd] at hx; cases hx
 | some d =>
  rw [hd] at hx;simp only [Xw,Xf] at hx;subst hx;obtain ⟨fr,cs,k1,k2⟩:=h2 i d hd;rw [k1] at ha;simp only [Xf] at ha;subst ha;exact ⟨k2,rfl⟩
theorem Vc:∀ (aZ:List SAK) (h:FuncId) (ds gs:List Nat),SAK.clo h ds gs∈aZ→∀ d∈ds,d∈Zt aZ
 | [], _, _, _, hm, _, _ => by simp at hm
 | a :: aZ, h, ds, gs, hm, d, hd => by
  have htail:d∈Zt aZ→d∈Zt (a::aZ):=by
   intro hx
   cases a with
   | clo _ _ _ => exact Xv.2 (.inr hx)
   | ref _ _ _ _ =>
    simp only [Zt];split
    ·exact hx
    ·exact Ul _ hx
   | _ => exact hx
  rcases Xq.1 hm with rfl | hm
  ·by_cases hx:d∈Zt aZ
   ·exact htail hx
   ·refine Xv.2 (.inl ?_);rw [List.mem_eraseDups,List.mem_filter];exact ⟨hd,by simpa using hx⟩
  ·exact htail (Vc aZ h ds gs hm d hd)
theorem KF:∀ (aZ:List SAK) (t d q j:Nat),SAK.ref t d q j∈aZ→d∈Zt aZ
 | [], _, _, _, _, hm => by simp at hm
 | a :: aZ, t, d, q, j, hm => by
  rcases Xq.1 hm with rfl | hm
  ·simp only [Zt];split
   ·rename_i hx;simpa using hx
   ·exact U8
  ·have hx:=KF aZ t d q j hm
   cases a with
   | clo _ _ _ => exact Xv.2 (.inr hx)
   | ref _ _ _ _ =>
    simp only [Zt];split
    ·exact hx
    ·exact Ul _ hx
   | _ => exact hx
theorem ZiW:∀ (l:List Nat) (d:Nat),d∈l→l[Zp1 d l]? = Xa d
 | [], _, h => by simp at h
 | x :: xs, d, h => by
  unfold Zp1;split
  ·rename_i hx;rw [hx];rfl
  ·rename_i hx;rcases Xq.1 h with rfl | h
   ·exact (hx rfl).elim
   ·simpa using ZiW xs d h
theorem Zn9 {P:Program} {σ:Nat→AV} {ρ:Nat→V} {base:Nat} {gh:List Nat} {x:KU} {a:SAK} (h:(a.den ρ).ok P σ x):((ZcM base gh a).den ρ).ok P σ x:=by
 cases a with
 | clo f ds gs => cases x <;> exact h
 | ref t d q j => cases x <;> exact h
 | _ => exact h
theorem Zcm (ρ:Nat→V) {x:SC} (h:Zcu x=Xb):ZaI (x.den ρ)=Xb:=by cases x<;>first | rfl | cases h
theorem Zfu (ρ:Nat→V) {x:SV} (h:Zki x=Xb):ZeD (x.den ρ)=Xb:=by
 have hcs:∀ cs:List SC,cs.all Zcu=Xb→(cs.map (SC.den ρ)).all ZaI=Xb:=by
  intro cs h;rw [XD] at h ⊢;intro y hy;obtain ⟨z,hz,rfl⟩:=Xj.1 hy;exact Zcm ρ (h z hz)
 have hbs:∀ cs:List BC,cs.all Zm9=Xb→(cs.map (BC.den ρ)).all ZaI=Xb:=by
  intro cs h;rw [XD] at h ⊢;intro y hy;obtain ⟨z,hz,rfl⟩:=Xj.1 hy;have:=h z hz
  cases z with
  | c w => exact Zcm ρ this
  | own _ _ _ => cases this
  | gone => cases this
 cases x with
 | c y => cases y <;> first | rfl | cases h
 | dead => rfl
 | agg cs => exact hcs cs h
 | box cs => exact hbs cs h
 | gbox cs => exact hbs cs h
 | tuple vs =>
  simp only [Zki,XD] at h;simp only [SV.den,ZeD,XD];intro y hy;obtain ⟨z,hz,rfl⟩:=Xj.1 hy;have:=h z hz
  cases z with
  | c w =>
   have h2:=Zcm ρ (show Zcu w=Xb from this)
   cases w<;>first | rfl | cases this
  | agg cs => exact hcs cs this
  | own _ _ _ => cases this
  | gone => cases this
 | _ => cases h
theorem Zhi {P:Program} {g:Nat→SV} {rf:List Nat} (ρ:Nat→V):∀ {args:List Operand} {i0 i:Nat} {x:Operand} {d q:Nat},args[i]? = Xa x→(rf.contains (i0+i)&&(ZcH g x).isSome)=Xe→Zo P (fun d=>(g d).den ρ) x = .mref d q→(∀ t e' ys,x = .tmp t→(g t).den ρ≠.own Xb e' ys)→(d,q)∈Wy P g rf args i0
 | [], _, i, _, _, _, hx, _, _, _ => by simp at hx
 | y :: rest, i0, i, x, d, q, hx, hi, h, hno => by
  have hg:Jk P g x = .mref d q:=ZjP (ρ:=ρ) (by rw [Yc];exact h);unfold Wy
  cases i with
  | zero =>
   simp only [XB,Xf] at hx;subst hx;rw [if_neg (by rw [Uh] at hi;rw [hi];simp)];split
   ·rename_i b e l hb
    cases y with
    | tmp t =>
     simp only [ZY,Xw,Xf] at hb
     cases b with
     | true => exact (hno t e (l.den ρ) rfl (by rw [hb]; rfl)).elim
     | false => simp only [Jk, hb] at hg; cases hg
    | _ => simp [ZY] at hb
   ·rw [hg];exact U8
  | succ i =>
   have ih:=Zhi (P:=P) (g:=g) (rf:=rf) ρ (args:=rest) (i0:=i0+1) (i:=i) (by simpa using hx) (by rw [Wu,Nat.add_comm 1 i];exact hi) h hno;split
   ·exact ih
   ·split
    ·exact ih
    ·split
     ·exact Ul _ ih
     ·exact ih
theorem KE (ρ:Nat→V):∀ (aZ:List SAK),(∀ a∈aZ,a.sv.isG=Xe)→((aZ.map (SAK.den ρ)).map AK.av).countP AV.isG=0
 | [], _ => rfl
 | a :: aZ, h => by
  have h0:=h a (by simp)
  have:(a.den ρ).av.isG=Xe:=by
   rw [Zsp]
   cases a with
   | imm x => cases x <;> first | rfl | exact KD ρ _ | (simp [SAK.sv, SV.isG] at h0)
   | own t x e l => rfl
   | box d fr to cs => cases to <;> first | rfl | (simp [SAK.sv, ZpZ, SV.isG] at h0)
   | clo g ds gs => rfl
   | ref t d q j => rfl
   | pad => rfl
   | sto d l => simp [SAK.sv, SV.isG] at h0
  rw [Xh,Xh,List.countP_cons,KE ρ aZ fun b hb=>h b (by simp [hb]),this];rfl
theorem ZeX {P:Program} {g:Nat→SV} (ρ:Nat→V) {xs:List KU} {aZ saks:List SAK} {nt:Nat} (hx:Kh P g ρ xs aZ) (hr:Raw aZ) (h:VP g nt aZ=Xa saks) :
  ∃ tail,Kh P g ρ (xs++tail) saks∧(∀ x∈tail,x = .pad∨x = .ghost)∧xs.length+((saks.map (SAK.den ρ)).map AK.av).countP AV.isG≤saks.length∧Zon (saks.map (SAK.den ρ))∧Zm3 (saks.map (SAK.den ρ))∧∀ (i t d q j:Nat),aZ[i]? = Xa (SAK.ref t d q j)→∃ j',saks[i]? = Xa (SAK.ref t d q j'):=by
 unfold VP at h;split at h
 ·rename_i hg;simp only [Xf] at h;subst h;refine ⟨[],by rw [XN];exact hx,by simp,by rw [KE ρ aZ fun a ha=>(hr a ha).1,hx.1];exact Xy _,fun i f ds gs hi=>?_,fun i t d q j hi=>?_,fun i t d q j hi=>⟨j,hi⟩⟩
  case refine_2=>
   rw [Xl] at hi
   cases ha:aZ[i]? with
   | none => rw [ha] at hi; cases hi
   | some a =>
    rw [ha] at hi;simp only [Xw,Xf] at hi
    cases a<;>simp only [SAK.den,reduceCtorEq] at hi
    have:=KF aZ _ _ _ _ (Xm ha);rw [hg] at this
    cases this
  rw [Xl] at hi
  cases ha:aZ[i]? with
  | none => rw [ha] at hi; cases hi
  | some a =>
   rw [ha] at hi;simp only [Xw,Xf] at hi;have hm:=Xm ha
   cases a<;>simp only [SAK.den,reduceCtorEq] at hi
   rename_i f' ds' gs';simp only [AK.clo.injEq] at hi;obtain ⟨rfl,rfl,rfl⟩:=hi;have hgs:=(hr _ hm).2 _ _ _ rfl
   have hds:ds' = []:=by
    refine List.eq_nil_iff_forall_not_mem.2 fun d hd=>?_;have:=Vc aZ f' ds' gs' hm d hd;rw [hg] at this
    cases this
   subst hgs;subst hds;exact ⟨rfl,fun k d j hk=>by simp at hk⟩
 ·split at h
  ·rename_i hle
   cases hc:Zbp g Xb (Zt aZ) with
   | none => rw [hc] at h; cases h
   | some gs =>
    rw [hc] at h;simp only [Xw,Xf] at h;subst h;obtain ⟨c1,c2⟩:=ZbJ ρ (Zt aZ) gs hc
    have hpad:Kh P g ρ (Xg (nt-aZ.length) KU.pad) (Xg (nt-aZ.length) SAK.pad):=by
     refine ⟨by simp,fun i x a hx ha=>?_⟩;have h1:=Xm hx;have h2:=Xm ha;rw [(Wb.1 h1).2,(Wb.1 h2).2];trivial
    have hset:Kh P g ρ xs (aZ.map (ZcM nt (Zt aZ))):=by
     refine ⟨by simp [hx.1],fun i x a hxi ha=>?_⟩;rw [Xl] at ha
     cases hai:aZ[i]? with
     | none => rw [hai] at ha; cases ha
     | some b =>
      rw [hai] at ha;simp only [Xw,Xf] at ha;subst ha;exact Zn9 (hx.2 i x b hxi hai)
    refine ⟨Xg (nt-aZ.length) KU.pad++(Zt aZ).map fun _=>KU.ghost,?_,fun x hx=>?_,?_,fun i f ds js hi=>?_,fun i t d q j hi=>?_,fun i t d q j hi=>?_⟩
    ·rw [← Xo];exact (hset.append hpad).append (Zom ρ hc)
    ·rcases Xv.1 hx with hx | hx
     ·exact .inl (Wb.1 hx).2
     ·obtain ⟨_,_,rfl⟩:=Xj.1 hx;exact .inr rfl
    ·have hz1:(((aZ.map (ZcM nt (Zt aZ))).map (SAK.den ρ)).map AK.av).countP AV.isG=0:=KE ρ _ fun a ha=>by
      obtain ⟨b,hb,rfl⟩:=Xj.1 ha;have:=(hr b hb).1
      cases b<;>exact this
     have hz2:(((Xg (nt-aZ.length) SAK.pad).map (SAK.den ρ)).map AK.av).countP AV.isG=0:=KE ρ _ fun a ha=>by
      rw [(Wb.1 ha).2];rfl
     have hz3:((gs.map (SAK.den ρ)).map AK.av).countP AV.isG≤gs.length:=by
      have:=List.countP_le_length (p:=AV.isG) (l:=(gs.map (SAK.den ρ)).map AK.av);simpa using this
     simp only [XL,List.countP_append,Xu,Xr,UL] at hz1 hz2 hz3 ⊢;rw [hz1,hz2,hx.1];omega
    ·rw [Xl] at hi
     have hin:∃ a,(aZ.map (ZcM nt (Zt aZ)))[i]? = Xa a∧a.den ρ = .clo f ds js:=by
      cases hs:(aZ.map (ZcM nt (Zt aZ))++Xg (nt-aZ.length) .pad++gs)[i]? with
      | none => rw [hs] at hi; cases hi
      | some a =>
       rw [hs] at hi;simp only [Xw,Xf] at hi;rcases XG i aZ.length with h1 | h1
       ·rw [Xo,Xx (by simpa using h1)] at hs;exact ⟨a,hs,hi⟩
       ·rw [Xo,Xz (by simpa using h1)] at hs;rcases Xv.1 (Xm hs) with hm | hm
        ·rw [(Wb.1 hm).2] at hi;cases hi
        ·obtain ⟨k,hk⟩:=XO.1 hm;have hlt:k < (Zt aZ).length:=by rw [← c1];exact (Xk.1 hk).1
         obtain ⟨fr,cs,e1,_⟩:=c2 k _ (Xp hlt);rw [e1] at hk;simp only [Xf] at hk;subst hk
         cases hi
     obtain ⟨a,ha,hden⟩:=hin;rw [Xl] at ha
     cases hai:aZ[i]? with
     | none => rw [hai] at ha; cases ha
     | some b =>
      rw [hai] at ha;simp only [Xw,Xf] at ha;subst ha;have hm:=Xm hai
      cases b<;>simp only [ZcM,SAK.den,reduceCtorEq] at hden
      rename_i f' ds' gs';simp only [AK.clo.injEq] at hden;obtain ⟨rfl,rfl,rfl⟩:=hden;refine ⟨by simp,fun k d j hk hj=>?_⟩;rw [Xl,hk] at hj;simp only [Xw,Xf] at hj;subst hj;have hd:=Vc aZ f' ds' gs' hm d (Xm hk);obtain ⟨fr,cs,e1,_⟩:=c2 _ d (ZiW _ d hd);refine ⟨fr,cs.map (BC.den ρ),?_⟩;rw [Xl,Xz (by simp;omega)]
      have:nt+Zp1 d (Zt aZ)-(aZ.map (ZcM nt (Zt aZ))++Xg (nt-aZ.length) SAK.pad).length=Zp1 d (Zt aZ):=by
       simp;omega
      rw [this,e1];rfl
    ·rw [Xl] at hi
     have hin:∃ a,(aZ.map (ZcM nt (Zt aZ)))[i]? = Xa a∧a.den ρ = .ref t d q j:=by
      cases hs:(aZ.map (ZcM nt (Zt aZ))++Xg (nt-aZ.length) .pad++gs)[i]? with
      | none => rw [hs] at hi; cases hi
      | some a =>
       rw [hs] at hi;simp only [Xw,Xf] at hi;rcases XG i aZ.length with h1 | h1
       ·rw [Xo,Xx (by simpa using h1)] at hs;exact ⟨a,hs,hi⟩
       ·rw [Xo,Xz (by simpa using h1)] at hs;rcases Xv.1 (Xm hs) with hm | hm
        ·rw [(Wb.1 hm).2] at hi;cases hi
        ·obtain ⟨k,hk⟩:=XO.1 hm;have hlt:k < (Zt aZ).length:=by rw [← c1];exact (Xk.1 hk).1
         obtain ⟨fr,cs,e1,_⟩:=c2 k _ (Xp hlt);rw [e1] at hk;simp only [Xf] at hk;subst hk
         cases hi
     obtain ⟨a,ha,hden⟩:=hin;rw [Xl] at ha
     cases hai:aZ[i]? with
     | none => rw [hai] at ha; cases ha
     | some b =>
      rw [hai] at ha;simp only [Xw,Xf] at ha;subst ha;have hm:=Xm hai
      cases b<;>simp only [ZcM,SAK.den,reduceCtorEq] at hden
      rename_i t' d' q' j';simp only [AK.ref.injEq] at hden;obtain ⟨rfl,rfl,rfl,rfl⟩:=hden;have hd:=KF aZ _ _ _ _ hm;obtain ⟨fr,cs,e1,_⟩:=c2 _ _ (ZiW _ _ hd);refine ⟨fr,cs.map (BC.den ρ),?_⟩;rw [Xl,Xz (by simp;omega)]
      have:nt+Zp1 d' (Zt aZ)-(aZ.map (ZcM nt (Zt aZ))++Xg (nt-aZ.length) SAK.pad).length=Zp1 d' (Zt aZ):=by
       simp;omega
      rw [this,e1];rfl
    ·have hlt:=(Xk.1 hi).1;refine ⟨nt+Zp1 d (Zt aZ),?_⟩;rw [Xo,Xx (by simpa using hlt),Xl,hi];rfl
  ·cases h
theorem ZbA:∀ (l:List Nat),ZfB l=Xb→l.Nodup
 | [], _ => List.nodup_nil
 | x :: xs, h => by
  simp only [ZfB,Xs,Bool.not_eq_true',List.contains_eq_mem,decide_eq_false_iff_not] at h;exact Wa.2 ⟨h.1,ZbA xs h.2⟩
theorem Zqj (ρ:Nat→V) (fr to:Bool) (o:SV):(Zwf fr to o).den ρ=reB fr to (o.den ρ):=by
 cases to with
 | true =>
  cases o with
  | c x =>
   cases x with
   | cel p =>
    show AV.dead=reB fr Xb (Zd (p.den ρ));rcases Yx (p.den ρ) with ⟨_,_,h⟩ | ⟨_,_,_,h⟩ | ⟨_,h⟩ | ⟨_,_,h⟩ <;> rw [h]<;>rfl
   | _ => rfl
  | gbox cs => exact ZcN ρ fr _
  | _ => rfl
 | false =>
  cases o with
  | c x =>
   cases x with
   | cel p =>
    show AV.dead=reB fr Xe (Zd (p.den ρ));rcases Yx (p.den ρ) with ⟨_,_,h⟩ | ⟨_,_,_,h⟩ | ⟨_,h⟩ | ⟨_,_,h⟩ <;> rw [h]<;>rfl
   | _ => rfl
  | box cs => exact ZcN ρ fr _
  | _ => rfl
theorem Zte {fr to:Bool} {o:SV} {n:Nat} (h:o.bd n):(Zwf fr to o).bd n:=by
 unfold Zwf;split
 ·cases fr<;>exact h
 ·cases fr<;>exact h
 ·trivial
theorem Zhg (ρ ρ':Nat→V):∀ (aZ:List SAK) (os:List SV),Zbw (aZ.map (SAK.den ρ)) (os.map (SV.den ρ'))=(Za6 aZ os).map fun u=>(u.1,u.2.den ρ')
 | [], os => by cases os <;> rfl
 | a :: aZ, [] => by cases a <;> rfl
 | a :: aZ, o :: os => by
  cases a<;>simp only [Xh,SAK.den,Zbw,Za6,Zhg ρ ρ' aZ os,Zqj]<;>rfl
theorem KZ {n:Nat} : ∀ (aZ:List SAK) (os:List SV),(∀ o∈os,o.bd n)→∀ u∈Za6 aZ os,u.2.bd n
 | [], os, _, u, h => by cases os <;> simp [Za6] at h
 | a :: aZ, [], _, u, h => by cases a <;> simp [Za6] at h
 | a :: aZ, o :: os, ho, u, h => by
  cases a with
  | imm x => exact KZ aZ os (fun o' h' => ho o' (by simp [h'])) u h
  | clo _ _ _ => exact KZ aZ os (fun o' h' => ho o' (by simp [h'])) u h
  | pad => exact KZ aZ os (fun o' h' => ho o' (by simp [h'])) u h
  | own t x e l =>
   rcases Xq.1 h with rfl | h
   ·trivial
   ·exact KZ aZ os (fun o' h'=>ho o' (by simp [h'])) u h
  | ref t x e l =>
   rcases Xq.1 h with rfl | h
   ·trivial
   ·exact KZ aZ os (fun o' h'=>ho o' (by simp [h'])) u h
  | sto d l =>
   rcases Xq.1 h with rfl | h
   ·exact ho o (by simp)
   ·exact KZ aZ os (fun o' h'=>ho o' (by simp [h'])) u h
  | box d fr to cs =>
   rcases Xq.1 h with rfl | h
   ·exact Zte (ho o (by simp))
   ·exact KZ aZ os (fun o' h'=>ho o' (by simp [h'])) u h
end Go.AM
