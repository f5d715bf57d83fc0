import Derived.Test.YtnkmbgbpkgmbnaaGreatM1
import Derived.Laws.MakeOwn
import Derived.Laws.CopyRow
import Derived.Below
open Option renaming some→Xa,none→Xe,map_some→XA,map_eq_some_iff→U5
open Bool renaming false→Xb,true→Xc,and_eq_true→Xk,not_eq_true'→XJ,or_eq_true_iff→TG
open Option.some renaming injEq→Xf,inj→Uo
open List renaming length_map→Xi,getElem?_eq_getElem→Xm,map_cons→Xn,mem_of_getElem?→Xo,getElem?_map→Xp,mem_append→Xq,mem_cons→Xr,mem_map→Xs,length_take→Xu,replicate→Xv,getElem?_eq_some_iff→Xx,append_assoc→XB,getElem_mem→XC,length_append→XD,all_eq_true→XE,mem_singleton→XF,getElem?_append_right→XG,getElem?_append_left→XH,getElem?_take→XI,range→XK,mem_of_mem_take→XL,getElem?_cons_zero→XM,length_cons→XO,mem_of_mem_drop→XR,length_drop→XV,getElem?_drop→X4,map_nil→X5,mem_iff_getElem?→X6,nil_append→X9,take_of_length_le→Uc,mem_iff_getElem→Ud,mem_range→Uf,eq_nil_of_length_eq_zero→Uh,map_take→Um,flatten_cons→Un,map_drop→Uq,getElem?_eq_none→Ur,map_append→Us,any_eq_true→Ut,mem_filter→Uu,getElem?_cons_succ→Uv,map_map→Uw,mem_cons_of_mem→UD,getElem?_set_ne→UI,mem_replicate→UJ,ext_getElem?→UO,getElem?_set_self→UP,map_toArray→UQ,mem_or_eq_of_mem_set→UR,filterMap_cons→UW,mem_cons_self→UX,flatten_append→U0,nodup_cons→U1,drop_of_length_le→U2,drop_zero→U6,map_congr_left→Tb,length_replicate→Td,map_set→Tg,mem_filterMap→Tl,mem_flatten→Tn,length_set→TD,take_length→TH,getD_eq_getElem?_getD→TS,getElem?_range→TU,find?_eq_none→TV,contains_eq_mem→TY
open Nat renaming le_refl→Xt,le_trans→XN,mul_le_mul_right→XP,lt_or_ge→XS,zero_add→XW,zero_le→X7,lt_of_lt_of_le→Uj,lt_succ_self→Ul,add_assoc→Uy,add_zero→UN,succ_mul→UY,mul_le_mul_left→Tc,le_add_right→Tq,add_sub_cancel→TF,eq_of_mul_eq_mul_right→TT
open Prod.mk renaming injEq→Xw
open Array renaming toList_inj→XZ,getElem?_eq_getElem→Uz,getElem?_eq_some_iff→UF,toArray_toList→U4,getElem?_modify→TX
open Int renaming toNat_of_nonneg→U7
set_option linter.unusedVariables false
set_option linter.unusedSimpArgs false
set_option linter.defProp false
namespace Go.AM
def ZcW {P:Program} {o:Oper} {σ:Nat→AV} (x:Bool) {T e:TypeId} {a:Nat} {d:Array (Nat×Operand)} {i:TypeInfo} {z:Value} {zc cs l:List AV} (ho:o.op = .buildSlice T a d)
  (hT:P.underlying T=Xa (.slice e)) (U:P.info? e=Xa i) (hz:i.zero=Xa z) (G:ZaL z.cells.toList=Xa zc) (W:z.cells.size=i.size) (Y:0 < i.size) (aj:a*i.size≤1048576)
  (hf:ZbY (fun j=>Xa (j*i.size,i.size)) ((Xv a zc).flatten) (d.toList.map fun p=>(p.1,getS P σ p.2))=Xa cs)
  (hw:l.length=cs.length∧∀ (w:World) (lim:Nat→Nat) (us:List Value),Ys w lim cs us→Ys w lim l us):J3 P o σ (.own x e (WP i.size l a)) [] []:=by
 intro c hc H tm w lim X Z al m ak Q hn
 have hg:∀ p∈d.toList,getS P H p.2=getS P σ p.2:=fun p hp=>ZL fun t ht=>Z t (by
  refine ZA (x:=p.2) ?_ ht;rw [ho];simp only [Op.operands,List.mem_toArray];exact Xs.2 ⟨p,hp,rfl⟩)
 obtain ⟨h1,h2⟩:=Zdx hc m d hg;have aa:=YH (Kb (w:=w) (lim:=lim) G) a;obtain ⟨f,h3,R⟩:=Zfk (P:=P) (X:=X) (σ:=H) (k:=0) _ _ _ _ _ aa h1 h2 hf;have J:z.cells.toList.length=i.size:=by rw [← W];simp
 have ab:cs.length=a*i.size:=by
  have L:∀ (d:List (Nat×AV)) (g r:List AV),ZbY (fun j=>Xa (j*i.size,i.size)) g d=Xa r→r.length=g.length:=by
   intro d
   induction d with
   | nil => intro g r h; simp only [ZbY, Xf] at h; rw [h]
   | cons p d ih =>
    intro g r h;simp only [ZbY] at h;split at h
    ·split at h
     ·rename_i ac;rw [ih _ _ h];simp;omega
     ·cases h
    ·cases h
  rw [L _ _ _ hf];have M:zc.length=i.size:=by rw [(Kb (w:=w) (lim:=lim) G).1,J]
  simp [M]
 replace R:=hw.2 _ _ _ R
 have n:l.length=a*i.size:=by rw [hw.1,ab]
 have s:(Instr.buildSlice T a (d.map fun p=>(p.1,Act.eval ⟨tm,[]⟩ p.2))).run P w = .ok (.slice (Xa ⟨w.heap.size,0,Xe⟩) a a) (w.alloc (.cells f.toArray e)):=by
  have ad:¬ (2^24 < a*i.size):=by omega
  by_cases hnz:a*i.size=0
  ·have ae:a=0:=(Nat.mul_eq_zero.1 hnz).elim id fun h=>by omega
   subst ae;have af:Array.range 0 = #[]:=rfl;simp only [Instr.buildSlice,Sem.run_bind,run_underlying hT,Result.andThen_ok,sizeOf,typeInfo,run_program,U,Sem.run_pure,gt_iff_lt,Nat.zero_mul,Nat.not_lt_zero,if_false,if_true,af,Array.map_empty];simp only [List.replicate_zero,List.flatten_nil] at h3;rw [h3];simp [newRow]
  ·have D:=replicate_zero z.cells.toList a;rw [J,U4] at D;simp only [Instr.buildSlice,Sem.run_bind,run_underlying hT,Result.andThen_ok,sizeOf,typeInfo,run_program,U,Sem.run_pure,gt_iff_lt,P3 ad,P3 hnz,zeroValue,hz];rw [D,h3];simp [newRow]
 have A:P.cellsOf e=i.size:=ZF U;have q:=Km w lim f.toArray e (if x=Xc then 0 else f.length) (fun _=>False);have C:(WP i.size l a).length=a:=by simp [WP]
 have N:=ZeJ i.size a l n;have h5:=R.mono q.ext;have E:f.length=a*i.size:=by rw [← R.1,n]
 have ag:a≤maxLen:=by
  have:a*1≤a*i.size:=Tc _ Y;have:(1048576:Nat)≤maxLen:=by decide
  omega
 have O:Jt P (w.alloc (.cells f.toArray e)) (fun b=>if b=w.heap.size then (if x=Xc then 0 else f.length) else lim b) x e (WP i.size l a) (.slice (Xa ⟨w.heap.size,0,Xe⟩) (WP i.size l a).length a) (Xa w.heap.size):=by
  refine .inl ⟨f,⟨by rw [C,A,E],.inr ⟨w.heap.size,a,f.toArray,rfl,X7 _,Y6 w _ e,by rw [C];exact Xt _,ag,by simp [A,E],by rw [C,A,← E];simp⟩⟩,rfl,fun b s=>?_,fun x hx=>?_,fun x hx y S=>?_,fun j y u S hu=>?_⟩
  ·simp only [Xf] at s;subst s;exact P4 rfl
  ·obtain ⟨j,hj,rfl⟩:=Xs.1 hx;have ah:j < a:=Uf.1 hj;have hm:j*i.size+i.size≤a*i.size:=by rw [← UY];exact XP _ ah
   simp [n,A];omega
  ·refine h5.2.1 y ?_;rw [← N];exact Tn.2 ⟨x,hx,S⟩
  ·rw [N] at S;exact h5.2.2 j y u S hu
 rw [C] at O;have ai:=m.world q fun _ hs=>hs.elim;refine Zr (v:=.slice (Xa ⟨w.heap.size,0,Xe⟩) a a) (w':=w.alloc (.cells f.toArray e)) (by simp only [execOp,ho,Sem.run_bind,s,Result.andThen_ok,Sem.run_pure]) (hn _ _ (Jp ai (by rw [hc];exact O) (fun b s=>?_) fun _=>.cells fun b s=>by cases s;exact ⟨_,_,_,Y6 w _ e⟩));simp only [Xf] at s;subst s;exact ⟨.inr m.frm.size,fun i j=>KC m i j⟩
def ZcN {T':Odr} {P:Program} {o:Oper} {σ:Nat→AV} {cl:Call} {T e:TypeId} {i:TypeInfo} {z:Value} {t:Nat} {y:Operand} {x:Bool} {xs u:List (List AV)} {us:List (Nat×AV)} {f:Bool} (U:o.op = .call cl) (l:cl.callee = .builtin .append)
  (g:cl.args.toList = [.tmp t,y]) (A:cl.argTypes.toList = [T,T]) (hT:P.underlying T=Xa (.slice e)) (W:P.info? e=Xa i) (hz:i.zero=Xa z) (C:z.cells.size=i.size)
  (D:σ t = .own x e xs) (hy:getS P σ y = .slice f i.size u) (k:(xs.length+u.length)*(i.bytes+1)≤Jr) (E:(x=Xb∧us = [])∨Yv T' σ t us) (m:Zv P e=Xb) :
  Vr T' P o σ (.own x e (xs++u)) ((t,Zao P x e xs)::us) []:=by
 have a:cl.args = #[.tmp t,y]:=by apply XZ.1;rw [g]
 have n:cl.argTypes = #[T,T]:=by apply XZ.1;rw [A]
 intro c p q G w lim X H J L d Y Q hn;have M:P.cellsOf e=i.size:=ZF W;have N:getS P q y=getS P σ y:=ZL fun t D=>H t (by simp [ZA (o:=o) (x:=y) (by rw [U];simp [Op.operands,Call.operands,a,l]) D]);have O:q t = .own x e xs:=by rw [J t (by simp),D]
 obtain ⟨X1,Z,h2,h3⟩:=d.freeAll (us:=us) O (E.imp id fun h=>h.all L);have R:Rep w lim (.slice f (P.cellsOf e) u) (Act.eval ⟨G,[]⟩ y):=by rw [M];exact YU p d hy N
 rw [p] at h2;obtain ⟨v',w',aa,ab,r1,r2,r3,r⟩:=KN (ty:=o.type) hT W hz C h2 (.of R) k m;have hw:=Z.world r3 h3;refine Zr (v:=v') (w':=w') ?_ (hn _ w' ?_)
 ·have S:Act.eval ⟨G,[]⟩ (.tmp t)=G.getD t undef:=rfl;simp only [execOp,U,resolve,l,a,n,UQ,Xn,X5,Sem.run_bind,Sem.run_pure,Result.andThen_ok,invoke,builtin,S,r1]
 ·rw [p] at hw;rw [← p] at r2;refine Jp hw r2 (fun b s=>?_) fun _=>.noMap (by rw [p];exact m);rcases r with r | r
  ·rw [r] at s;exact h3 b s
  ·rw [r] at s;simp only [Xf] at s;subst s;exact ⟨.inr d.frm.size,fun i j=>KC Z i j⟩
def ZbK {P:Program} {w:World} {lim:Nat→Nat} {x:Bool} {e:TypeId} {v:Value} {s:Nat} (h:Rep w lim (.slice Xc s []) v):Jt P w lim x e [] v Xe:=by
 have d:∀ (y:AV),Rep w lim y v→y = .slice Xc s []→Jt P w lim x e [] v Xe:=by
  intro y g c
  cases g with
  | sliceN => exact .inl ⟨[], World.ownsRow_nil _ 0 e _, rfl, by simp, by simp, by simp, by simp⟩
  | @sliceE f s' a cap hf =>
   injection c with h1 h2 h3;have:=hf h1;subst this;exact .inr (.inl ⟨rfl,rfl,a,rfl⟩)
  | @sliceC f s' xs b o cap us hs hc hf hle hlim hus hcell hr =>
   injection c with h1 h2 h3;subst h3;have:=hf h1;simp at this;subst this;exact .inr (.inl ⟨rfl,rfl,_,rfl⟩)
  | val _ => cases c
  | agg _ _ _ => cases c
 exact d _ h rfl
def Zbj {P:Program} {o:Oper} {σ:Nat→AV} (O:Bool) {cl:Call} {T e:TypeId} {i:TypeInfo} {z:Value} {x y:Operand} {u:List (List AV)} {f:Bool} {s:Nat} (C:o.op = .call cl) (g:cl.callee = .builtin .append)
  (h:cl.args.toList = [x,y]) (D:cl.argTypes.toList = [T,T]) (Z:P.underlying T=Xa (.slice e)) (R:P.info? e=Xa i) (hz:i.zero=Xa z) (E:z.cells.size=i.size)
  (hx:getS P σ x = .slice Xc s []) (hy:getS P σ y = .slice f i.size u) (k:(([] : List (List AV)).length+u.length)*(i.bytes+1)≤Jr) (m:Zv P e=Xb) :
  J3 P o σ (.own O e u) [] []:=by
 have a:cl.args = #[x,y]:=by apply XZ.1;rw [h]
 have n:cl.argTypes = #[T,T]:=by apply XZ.1;rw [D]
 intro c A p S w lim X q aa d U Q hn;have G:P.cellsOf e=i.size:=ZF R;have H:getS P p x=getS P σ x:=ZL fun t J=>q t (by simp [ZA (o:=o) (x:=x) (by rw [C];simp [Op.operands,Call.operands,a,g]) J]);have L:getS P p y=getS P σ y:=ZL fun t J=>q t (by simp [ZA (o:=o) (x:=y) (by rw [C];simp [Op.operands,Call.operands,a,g]) J]);have M:Jt P w lim O e [] (Act.eval ⟨S,[]⟩ x) Xe:=ZbK (s:=s) (YU A d hx H);have N:Rep w lim (.slice f (P.cellsOf e) u) (Act.eval ⟨S,[]⟩ y):=by rw [G];exact YU A d hy L
 obtain ⟨v',w',W,ab,r1,Y,r3,r⟩:=KN (ty:=o.type) Z R hz E M (.of N) k m;have hw:=d.world r3 fun b l=>by cases l
 refine Zr (v:=v') (w':=w') ?_ (hn _ w' ?_)
 ·simp only [execOp,C,resolve,g,a,n,UQ,Xn,X5,Sem.run_bind,Sem.run_pure,Result.andThen_ok,invoke,builtin,r1]
 ·rw [← A,X9] at Y;refine Jp hw Y (fun b l=>?_) fun _=>.noMap (by rw [A];exact m);rcases r with r | r
  ·rw [r] at l;cases l
  ·rw [r] at l;simp only [Xf] at l;subst l;exact ⟨.inr d.frm.size,fun i j=>KC d i j⟩
def Zc6 {T':Odr} {P:Program} {o:Oper} {σ:Nat→AV} {T:TypeId} {g:Array (Nat×Operand)} {f t:Nat} {J:Array Field} {l:Field} {i:TypeInfo} {z:Value} {zc:List AV} {e:TypeId} {xs:List (List AV)} {us:List (Nat×AV)} (ho:o.op = .build T g) (hp:g.toList = [(f,.tmp t)])
  (hT:P.underlying T=Xa (.struct J)) (L:P.info? T=Xa i) (hz:i.zero=Xa z) (U:ZaL z.cells.toList=Xa zc) (M:(J.toList.all fun f=>(P.info? f.type).isSome)=Xc) (W:J[f]? = Xa l)
  (h1:P.cellsOf l.type=1) (y:l.offset < zc.length) (ht:σ t = .own Xc e xs) (Y:Yv T' σ t us) :
  Vr T' P o σ (.aggo (zc.set l.offset (.own Xc e xs))) ((t,Zao P Xc e xs)::us) []:=by
 have Z:g = #[(f,.tmp t)]:=by apply XZ.1;rw [hp]
 intro c C aa m w lim X ak ab ac r aj Q hn;have ad:aa t = .own Xc e xs:=by rw [ab t (by simp),ht]
 obtain ⟨X1,D,S,k3⟩:=r.freeAll (us:=us) ad (.inr (Y.all ac));rw [C] at D S
 have E:(m.getD t undef).cells = #[m.getD t undef]:=by
  rcases Jt.sliceV S with ⟨_,_,h | ⟨a,h⟩⟩ | ⟨b,arr,cap,_,_,_,h⟩ | ⟨_,b,_,_,_,_,h⟩ <;> rw [h]<;>rfl
 have s:=Kb (w:=w) (lim:=lim) U;have G:l.offset < z.cells.toList.length:=by rw [← s.1];exact y
 have v:=ZjD l.offset [m.getD t undef] z.cells.toList.toArray (by have:=G;simp at this ⊢; omega);simp only [XO,List.length_nil,XW] at v
 have N:(execOp (Act.eval ⟨m,[]⟩) o).run P w = .ok (.value (.agg (z.cells.toList.set l.offset (m.getD t undef)).toArray)) w:=by
  have ae:(fun (i:Nat)=>(J.map fun (f:Field)=>(f.offset,P.cellsOf f.type))[i]?)=fun (i:Nat)=>(J[i]?).map fun (f:Field)=>(f.offset,P.cellsOf f.type):=by
   funext i;simp
  have hb:(Instr.build T (g.map fun p=>(p.1,Act.eval ⟨m,[]⟩ p.2))).run P w = .ok (.agg (z.cells.toList.set l.offset (m.getD t undef)).toArray) w:=by
   simp only [Instr.build,Sem.run_bind,zeroValue,typeInfo,run_program,L,hz,Result.andThen_ok,Sem.run_pure,run_underlying hT];have af:=Zdp (P:=P) w J M;rw [af];simp only [Result.andThen_ok];rw [ae,Z];have ag:Act.eval ⟨m,[]⟩ (.tmp t)=m.getD t undef:=rfl
   have al:¬ (z.cells.size < l.offset+1):=by
    have:z.cells.toList.length=z.cells.size:=by simp
    omega
   simp only [UQ,Xn,X5,ag,Instr.fill,W,XA,h1,E];rw [P3 (by simp;omega)]
   have h2:z.cells.toList.take l.offset++[m.getD t undef]++z.cells.toList.drop (l.offset+1)=z.cells.toList.set l.offset (m.getD t undef):=by
    rw [List.set_eq_take_append_cons_drop,P4 G];simp
   rw [U4] at v;rw [v,h2];rfl
  simp only [execOp,ho,Sem.run_bind,hb,Result.andThen_ok,Sem.run_pure]
 refine Zr N (hn _ w ?_);rw [← C] at D S;have H:(z.cells.toList.set l.offset (m.getD t undef)).length=(zc.set l.offset (.own Xc e xs)).length:=by rw [TD,TD,s.1]
 cases hdst:o.dst with
 | none => rw [C] at D; exact ⟨lim, X1, by rw [← C] at D ⊢; exact D⟩
 | some d =>
  intro hd hm;rw [← C]
  refine ⟨lim,_,D.putRow (fun k=>if k=l.offset+1 then X t 0 else Xe) (Jc.refl w lim (fun _=>False)) (fun _ hs=>hs.elim) hd (tm':=m.setIfInBounds d (.agg (z.cells.toList.set l.offset (m.getD t undef)).toArray)) (by simp) (fun i L=>Jj m d i _ L)
   (.inl (by rw [C];exact (Z3 hm).1)) (fun i q L hr=>(D.noRefs (by rw [C];exact (Z3 hm).none) i q L hr).elim) ?_ (fun k b A=>?_) (fun k k' b A O=>?_)⟩
  ·rw [Yr m d _ (by rw [r.size];exact hd)];refine ⟨_,rfl,H,fun x n=>?_,fun j x u n R=>?_⟩
   ·rcases UR n with n | n
    ·exact .inl (s.2.1 x n)
    ·exact .inr ⟨_,_,_,n⟩
   ·rw [Zx];by_cases hj:j=l.offset
    ·subst hj;rw [UP y] at n;rw [UP G] at R;simp only [Xf] at n R;subst n;subst R;rw [P4 rfl];exact S
    ·rw [UI (fun h=>hj h.symm)] at n R;rw [P3 (by omega)];have ah:=s.2.2 j x u n R;have ai:=s.2.1 x (Xo n)
     cases x<;>simp [AV.isCell] at ai<;>exact ah
  ·split at A
   ·obtain ⟨m1,m2⟩:=k3 b A;exact ⟨(r.ours t 0 b A).1,m1,fun i j _=>m2 i j⟩
   ·cases A
  ·split at A<;>split at O
   ·omega
   ·cases O
   ·cases A
   ·cases A
def ZcJ {P:Program} {o:Oper} {σ:Nat→AV} {T:TypeId} {a:Operand} {t d off:Nat} {cs vc:List AV} (ho:o.op = .store T a (.tmp t)) (ha:getS P σ a = .ptr d off) (hd:σ d = .box cs) (W:σ t = .aggo vc)
  (G:vc.length=P.cellsOf T) (h0:P.cellsOf T≠0) (s:off+P.cellsOf T≤cs.length) (H:ZcG ((cs.drop off).take (P.cellsOf T))) :
  J3 P o σ .dead [(t,.dead),(d,.box (cs.take off++vc++cs.drop (off+P.cellsOf T)))] [d]:=by
 intro c hc m tm w lim X Y J f ah Q Z;have aa:getS P m a=getS P σ a:=ZL fun t W=>Y t (by simp [ZA (o:=o) (x:=a) (by rw [ho];simp [Op.operands]) W]);have p:m d = .box cs:=by rw [J d (by simp),hd]
 have g:m t = .aggo vc:=by rw [J t (by simp),W]
 have L:d≠t:=fun h=>by rw [h,g] at p;cases p
 have M:=YU hc f ha aa;rw [← hc] at M;obtain ⟨b,h1,h2,h3⟩:=VS f p M;obtain ⟨i,hi⟩:=ZJ h0;have N:=f.rel t;rw [g] at N;obtain ⟨us,u1,R,u3,u4⟩:=N;have ab:t < c.nt:=ZaX f (by rw [g];exact fun h=>by cases h) (by rw [g];rfl);have k1:Sim c (upd m t .dead) tm w lim (Zaz X t YX):=f.weaken (k:=0) ab (fun cs h=>by rw [g] at h;cases h) (f.noRefs fun k=>by rw [g];rfl) rfl (fun i q S=>by rcases S with S | ⟨_,S⟩ <;> cases S) trivial;have O:upd m t .dead d = .box cs:=by rw [Zp _ _ L,p]
 obtain ⟨U,arr,ty,g1,g2,g3,g4,g5,g6,g7⟩:=h3;have ac:U=b:=by rw [g1] at h1;exact Uo h1
 subst ac
 have A:=k1.setCells (off:=off) (vc:=vc) (us:=us) (b:=U) (fun j=>if j < vc.length then X t (j+1) else Xe) O (by rw [ZC X YX L];exact g1) (by rw [G];exact s) R.symm (fun z hz=>(u3 z hz).imp id .inl) (fun j x u C hu=>?_) g3
  (fun k q1 q2 i hi E=>Zcx k1 O (by rw [← G] at H;exact H) q1 q2 E) (fun j b' ad=>?_)
 ·refine Ka (w':=w.setRow U (arr.toList.take off++us++arr.toList.drop (off+us.length)).toArray) ?_ (Z undef _ ?_)
  ·have ae:Act.eval ⟨tm,[]⟩ (.tmp t) = .agg us.toArray:=u1
   have af:=K6 (P:=P) (T:=T) (w:=w) (b:=U) (off:=off) (v:=.agg us.toArray) (us:=us) hi rfl (by rw [R,G]) g3 (by rw [R,G,g4];exact s) (fun u hu=>by
    obtain ⟨j,hj⟩:=X6.1 hu;have l:j < vc.length:=by rw [← R];exact (Xx.1 hj).1
    have E:=u4 j _ u (Xm l) hj;rcases u3 _ (XC l) with C | ⟨x,e,xs,C⟩
    ·generalize vc[j]=y at E C
     cases y<;>simp [AV.isCell] at C<;>exact Rep.oneCell E rfl
    ·rw [C] at E;rcases Jt.sliceV (show Jt c.P w lim x e xs u _ from E) with ⟨_,_,h | ⟨a,h⟩⟩ | ⟨b,arr,cap,_,_,_,h⟩ | ⟨_,b,_,_,_,_,h⟩ <;> rw [h]<;>rfl)
   simp only [execOp,ho,h2,ae,Sem.run_bind,af,Result.andThen_ok,Sem.run_pure]
  ·rw [G] at A;exact ZH A rfl (k:=0) trivial
 ·have l:j < vc.length:=(Xx.1 C).1;show Yn c.P w lim (if j < vc.length then X t (j+1) else Xe) x u;rw [P4 l];exact u4 j x u C hu
 ·have n:(if j < vc.length then X t (j+1) else Xe)=Xa b':=ad;split at n
  ·rename_i l;obtain ⟨o1,o2⟩:=f.ours t (j+1) b' n;refine ⟨l,o2,o1,fun i k r=>?_,fun i' ag=>?_⟩
   ·by_cases hit:i=t
    ·subst hit;rw [Zx] at r;cases r
    ·rw [ZC X YX hit] at r;exact hit (f.dist i k t (j+1) b' r n).1
   ·have D:(if i' < vc.length then X t (i'+1) else Xe)=Xa b':=ag;split at D
    ·have:=(f.dist t (j+1) t (i'+1) b' n D).2;omega
    ·cases D
  ·cases n
def Z5 (l:List AV):Nat→AV:=fun i=>(l[i]?).getD .dead
def ZlZ (X:Nat→Nat→Option Nat):Prop:=∀ d k a c b,X d k=Xa b→X a c=Xa b→d=a∧k=c
def Callable (P : Program) (f : FuncId) : Prop := ∃ fn, P.funcs[f]? = Xa fn ∧ (fn.name == "runtime.NumGoroutine") = Xb ∧ fn.body.isNone = Xb
def ZaO (n:Nat) (a:List Value) (v:Value) (i:Nat):Value:=if i=n then v else a.getD i undef
def J2 (P:Program) (f:FuncId) (args:List AV) (res:AV) (outs:List AV):Prop:=
 Callable P f∧∀ (w:World) (lim:Nat→Nat) (X:Nat→Nat→Option Nat) (a:List Value),a.length+args.countP AV.isG≤args.length→
  (∀ i,Z2 P w lim X (Z5 args) i (Z5 args i) (a.getD i undef))→ZlZ X→(∀ i k b,X i k=Xa b→b < w.heap.size)→
  Calls P f a.toArray w fun e w'=>∃ v c X',e = .returned v∧Jc w lim w' c (fun b=>∃ i k,X i k=Xa b)∧outs.length=args.length∧
   (∀ i,Z2 P w' c X' (Z5 (outs++[res])) i (Z5 (outs++[res]) i) (ZaO args.length a v i))∧ZlZ X'∧
   (∀ i k b,X' i k=Xa b→b < w'.heap.size∧((∃ i k,X i k=Xa b)∨w.heap.size≤b))∧∀ i,(Z5 (outs++[res]) i).isG=Xc→(Z5 args i).isG=Xc∧X' i 0=X i 0
def W8 (x:AV):Bool:=match x with | .val _=>Xc | _=>Xb
def Zhg (x:AV):Bool:=
 match x with
 | .val _ => Xc
 | .dead => Xc
 | .agg cs => cs.all W8
 | .box cs => cs.all W8
 | .gbox cs => cs.all W8
 | .tuple vs => vs.all fun v => match v with | .agg cs => cs.all W8 | v => W8 v
 | _ => Xb
def Vv (lim:Nat→Nat) (a N:Nat):Nat→Nat:=fun b=>if b=a then N else lim b
def ZbH {w w':World} {lim a:Nat→Nat} {x:AV} {v:Value} (b:W8 x=Xc) (h:Rep w lim x v):Rep w' a x v:=by
 cases x<;>simp [W8] at b
 cases h with
 | val h => exact .val h
def Zji {w w':World} {lim a:Nat→Nat} {cs:List AV} {v:Value} (b:cs.all W8=Xc) (h:Rep w lim (.agg cs) v):Rep w' a (.agg cs) v:=by
 rw [XE] at b
 cases h with
 | agg hl hc hr => exact .agg hl hc fun i c v d e => ZbH (b c (Xo d)) (hr i c v d e)
def ZmD {P:Program} {w w':World} {lim a:Nat→Nat} {ob:Option Nat} {x:AV} {v:Value} (b:W8 x=Xc) (h:Yn P w lim ob x v):Yn P w' a ob x v:=by
 cases x<;>simp [W8] at b
 exact ZbH rfl (show Rep w lim _ v from h)
def Zeb {P:Program} {w:World} {lim a:Nat→Nat} {X:Nat→Option Nat} {cs:List AV} {v:Value} (d:cs.all W8=Xc) (g:∀ b,X 0=Xa b→a b=lim b) (h:ZK P w lim X cs v):ZK P w a X cs v:=by
 rw [XE] at d;obtain ⟨b,arr,t,e,j,k,l,m,n,o⟩:=h;exact ⟨b,arr,t,e,j,k,l,(g b e).trans m,n,fun i c u f p=>ZmD (d c (Xo f)) (o i c u f p)⟩
def ZlU {P:Program} {w:World} {lim a:Nat→Nat} {X:Nat→Nat→Option Nat} {σ:Nat→AV} {d:Nat} {x:AV} {v:Value} (e:Zhg x=Xc) (g:∀ b,X d 0=Xa b→a b=lim b) (h:Z2 P w lim X σ d x v):Z2 P w a X σ d x v:=by
 cases x with
 | val u => exact ZbH rfl (show Rep w lim _ v from h)
 | dead => trivial
 | agg cs => exact Zji e (show Rep w lim _ v from h)
 | box cs => exact Zeb e g h
 | gbox cs =>
  obtain ⟨l,h⟩:=h;exact ⟨l,Zeb e g h⟩
 | tuple vs =>
  simp only [Zhg,XE] at e;obtain ⟨us,m,n,o⟩:=h;refine ⟨us,m,n,fun i c u j p=>?_⟩;have f:=e c (Xo j);have k:=o i c u j p
  cases c with
  | agg cs => exact Zji f (show Rep w lim _ u from k)
  | val y => exact ZbH rfl (show Rep w lim _ u from k)
  | _ => cases f
 | _ => cases e
def ZcC {P:Program} {w:World} {lim:Nat→Nat} {e:TypeId} {xs:List (List AV)} {v:Value} {a:Nat} (h:Jt P w lim Xc e xs v (Xa a)) (d:Zv P e=Xb) (c:Ext w lim w (Vv lim a (xs.length*P.cellsOf e))) :
  Jt P w (Vv lim a (xs.length*P.cellsOf e)) Xb e xs v (Xa a):=by
 rcases h.noMap d with ⟨ws,g1,g2,g3,g4,g5,g6⟩ | ⟨_,h,_⟩
 ·refine .inl ⟨ws,g1,g2,fun b g=>?_,g4,g5,fun j z u i k=>(g6 j z u i k).mono c⟩;have f:a=b:=Uo g;subst f;rw [P3 (by simp),g1.1];exact P4 rfl
 ·cases h
def J2.borrow {P:Program} {f:FuncId} {args:List AV} {res:AV} {outs:List AV} (h:J2 P f args res outs) (E:∀ i,Zhg (Z5 (outs++[res]) i)=Xc) {w:World} {lim:Nat→Nat} {X:Nat→Nat→Option Nat} {a:List Value} {j N:Nat}
  (z:j < w.heap.size) (m:lim j=0) (r:∀ i k,X i k≠Xa j) (s:a.length+args.countP AV.isG≤args.length)
  (t:∀ i,Z2 P w (Vv lim j N) X (Z5 args) i (Z5 args i) (a.getD i undef)) (n:ZlZ X) (p:∀ i k b,X i k=Xa b→b < w.heap.size) :
  Calls P f a.toArray w fun e w'=>∃ v c X',e = .returned v∧Jc w lim w' c (fun b=>∃ i k,X i k=Xa b)∧outs.length=args.length∧
   (∀ i,Z2 P w' c X' (Z5 (outs++[res])) i (Z5 (outs++[res]) i) (ZaO args.length a v i))∧ZlZ X'∧
   (∀ i k b,X' i k=Xa b→b < w'.heap.size∧((∃ i k,X i k=Xa b)∨w.heap.size≤b))∧∀ i,(Z5 (outs++[res]) i).isG=Xc→(Z5 args i).isG=Xc∧X' i 0=X i 0:=by
 refine (h.2 w (Vv lim j N) X a s t n p).mono ?_;rintro e w' ⟨v,c,X',G,g,A,H,J,x,C⟩
 have D:∀ i k b,X' i k=Xa b→b≠j:=by
  intro i k b l d;subst d;rcases (x i k b l).2 with ⟨i',k',q⟩ | q
  ·exact r i' k' q
  ·omega
 have L:=g.blk j z fun ⟨i,k,l⟩=>r i k l;refine ⟨v,fun b=>if b=j then 0 else c b,X',G,⟨g.os,g.tape,g.output,g.size,g.frz,fun b l M=>?_,fun b l=>?_⟩,A,fun i=>?_,J,x,C⟩
 ·obtain ⟨q,y⟩:=g.blk b l M;refine ⟨q,?_⟩;by_cases d:b=j
  ·subst d;show (if b=b then 0 else c b)=lim b;rw [P4 rfl,m]
  ·show (if b=j then 0 else c b)=lim b;rw [P3 d,y];exact P3 d
 ·by_cases d:b=j
  ·subst d;refine ⟨by rw [m];exact X7 _,fun o u O _=>by rw [m] at O;omega⟩
  ·obtain ⟨q,y⟩:=g.ext b l;have Q:Vv lim j N b=lim b:=P3 d;rw [Q] at q y;exact ⟨by show lim b≤if b=j then 0 else c b;rw [P3 d];exact q,y⟩
 ·exact ZlU (E i) (fun b l=>P3 (D i 0 b l)) (H i)
def mkB (a:Bool) (cs:List AV):AV:=match a with | true=>.gbox cs | false=>.box cs
inductive AK where
 | imm (x : AV)
 | own (t : Nat) (x : Bool) (e : TypeId) (xs : List (List AV))
 | box (d : Nat) (fr to : Bool) (cs : List AV)
 | clo (g : FuncId) (ds gs : List Nat)
 | ref (t d q j : Nat)
 | pad
def AK.av:AK→AV
 | .imm x => x
 | .own _ x e xs => .own x e xs
 | .box _ _ to cs => mkB to cs
 | .clo g _ gs => .clo g gs
 | .ref _ _ q j => .mref j q
 | .pad => .dead
def AK.slot:AK→Option Nat
 | .imm _ => Xe
 | .own t _ _ _ => Xa t
 | .box d _ _ _ => Xa d
 | .clo _ _ _ => Xe
 | .ref t _ _ _ => Xa t
 | .pad => Xe
def ZoC (x:AV):Prop:=(∃ v,x = .val v)∨(∃ cs,x = .agg cs)∨∃ f s xs,x = .slice f s xs
inductive Zbq where
 | op (x : Operand)
 | cap (d : Nat)
 | ghost
 | pad
def ZCf (P:Program) (σ:Nat→AV) (x:Operand) (y:AV):Prop:=∃ d q e xs,(getS P σ x = .mref d q∧∀ t e' a,x = .tmp t→σ t≠.own Xc e' a)∧Zy (σ d) q=Xa (e,xs)∧(P.cellsOf e≠0∧Zv P e=Xb)∧y = .slice Xb (P.cellsOf e) xs
def AK.ok (P:Program) (σ:Nat→AV):Zbq→AK→Prop
 | .op x, .imm y => (getS P σ x = y ∧ ZoC y) ∨ ZCf P σ x y
 | .op x, .own t b e xs => x = .tmp t ∧ σ t = .own b e xs
 | .op x, .box d fr to cs => getS P σ x = .ptr d 0 ∧ σ d = .box cs ∧ fr = Xb ∧ to = Xb
 | .op x, .clo g ds _ => getS P σ x = .clo g ds
 | .op x, .ref t d q _ => x = .tmp t ∧ σ t = .mref d q
 | .cap d', .box d fr to cs => d' = d ∧ σ d = mkB fr cs ∧ to = Xb
 | .ghost, .box d fr to cs => σ d = mkB fr cs ∧ to = Xc
 | .pad, .pad => True
 | _, _ => False
def reB (a b:Bool) (o:AV):AV:=
 match b,o with
 | true, .gbox cs => mkB a cs
 | false, .box cs => mkB a cs
 | _, _ => .dead
def Zwx (b a:Bool) (cs:List AV):reB b a (mkB a cs)=mkB b cs:=by cases a<;>rfl
def ZgN (a b:Bool) (cs:List AV) (q:Nat):Zy (mkB a cs) q=Zy (mkB b cs) q:=by cases a<;>cases b<;>cases q<;>rfl
def Zfu (a:Bool) (cs:List AV):(mkB a cs).isG=a:=by cases a<;>rfl
def Zsz (a:Bool) (cs:List AV):(mkB a cs).isB=Xc:=by cases a<;>rfl
def Zc5:List AK→List AV→List (Nat×AV)
 | .own t _ _ _ :: aZ, _ :: os => (t, .gone) :: Zc5 aZ os
 | .box d fr to _ :: aZ, o :: os => (d, reB fr to o) :: Zc5 aZ os
 | .imm _ :: aZ, _ :: os => Zc5 aZ os
 | .clo _ _ _ :: aZ, _ :: os => Zc5 aZ os
 | .ref t _ _ _ :: aZ, _ :: os => (t, .dead) :: Zc5 aZ os
 | .pad :: aZ, _ :: os => Zc5 aZ os
 | _, _ => []
def Jh:∀ (b:List AK) (c:List AV) (σ:Nat→AV) (d:Nat),(∀ a∈b,a.slot≠Xa d)→JV σ (Zc5 b c) d=σ d
 | [], c, σ, d, _ => by cases c <;> rfl
 | a :: b, [], σ, d, _ => by cases a <;> rfl
 | .imm _ :: b, o :: c, σ, d, h => Jh b c σ d fun a f => h a (by simp [f])
 | .clo _ _ _ :: b, o :: c, σ, d, h => Jh b c σ d fun a f => h a (by simp [f])
 | .pad :: b, o :: c, σ, d, h => Jh b c σ d fun a f => h a (by simp [f])
 | .ref t x e xs :: b, o :: c, σ, d, h => by
  show JV (upd σ t .dead) (Zc5 b c) d=σ d;rw [Jh b c _ d fun a f=>h a (by simp [f])];exact Zp σ _ fun g=>h (.ref t x e xs) (by simp) (by rw [g];rfl)
 | .own t x e xs :: b, o :: c, σ, d, h => by
  show JV (upd σ t .gone) (Zc5 b c) d=σ d;rw [Jh b c _ d fun a f=>h a (by simp [f])];exact Zp σ _ fun g=>h (.own t x e xs) (by simp) (by rw [g];rfl)
 | .box t fr to cs :: b, o :: c, σ, d, h => by
  show JV (upd σ t (reB fr to o)) (Zc5 b c) d=σ d;rw [Jh b c _ d fun a f=>h a (by simp [f])];exact Zp σ _ fun g=>h (.box t fr to cs) (by simp) (by rw [g];rfl)
def Yx:∀ (c:List AK) (f:List AV) (σ:Nat→AV) (i:Nat) (a:AK) (o:AV) (d:Nat),c.length=f.length→(c.filterMap AK.slot).Nodup→c[i]? = Xa a→f[i]? = Xa o→a.slot=Xa d→
  JV σ (Zc5 c f) d=match a with | .own _ _ _ _=>.gone | .box _ fr to _=>reB fr to o | .ref _ _ _ _=>.dead | _=>o
 | [], f, σ, i, a, o, d, _, _, l, _, _ => by simp at l
 | b :: c, [], σ, i, a, o, d, hl, _, _, _, _ => by simp at hl
 | b :: c, p :: f, σ, 0, a, o, d, hl, hnd, l, ho, hd => by
  simp only [XM,Xf] at l ho;subst l;subst ho
  have m:∀ a∈c,a.slot≠Xa d:=by
   intro a l n;rw [UW,hd] at hnd;exact (U1.1 hnd).1 (Tl.2 ⟨a,l,n⟩)
  cases b with
  | imm x => simp [AK.slot] at hd
  | clo g ds gs => simp [AK.slot] at hd
  | pad => simp [AK.slot] at hd
  | own t x e xs =>
   simp only [AK.slot,Xf] at hd;subst hd;show JV (upd σ t .gone) (Zc5 c f) t = .gone;rw [Jh c f _ t m,Jl]
  | ref t x e xs =>
   simp only [AK.slot,Xf] at hd;subst hd;show JV (upd σ t .dead) (Zc5 c f) t = .dead;rw [Jh c f _ t m,Jl]
  | box t fr to cs =>
   simp only [AK.slot,Xf] at hd;subst hd;show JV (upd σ t (reB fr to p)) (Zc5 c f) t=reB fr to p;rw [Jh c f _ t m,Jl]
 | b :: c, p :: f, σ, i + 1, a, o, d, hl, hnd, l, ho, hd => by
  have h:c.length=f.length:=by simpa using hl
  have j:c[i]? = Xa a:=by simpa using l
  have k:f[i]? = Xa o:=by simpa using ho
  cases b with
  | imm x => exact Yx c f σ i a o d h (by simpa [UW, AK.slot] using hnd) j k hd
  | clo g ds gs => exact Yx c f σ i a o d h (by simpa [UW, AK.slot] using hnd) j k hd
  | pad => exact Yx c f σ i a o d h (by simpa [UW, AK.slot] using hnd) j k hd
  | ref t x e xs =>
   rw [UW] at hnd;exact Yx c f (upd σ t .dead) i a o d h (U1.1 hnd).2 j k hd
  | own t x e xs =>
   rw [UW] at hnd;exact Yx c f (upd σ t .gone) i a o d h (U1.1 hnd).2 j k hd
  | box t fr to cs =>
   rw [UW] at hnd;exact Yx c f (upd σ t (reB fr to p)) i a o d h (U1.1 hnd).2 j k hd
def ZiZ:∀ (f:List AK),(f.filterMap AK.slot).Nodup→∀ (i j:Nat) (a b:AK) (d:Nat),f[i]? = Xa a→f[j]? = Xa b→a.slot=Xa d→b.slot=Xa d→i=j
 | [], _, i, j, a, b, d, e, _, _, _ => by simp at e
 | x :: f, hnd, i, j, a, b, d, e, hb, hda, hdb => by
  have g:(f.filterMap AK.slot).Nodup:=by
   rw [UW] at hnd;split at hnd
   ·exact hnd
   ·exact (U1.1 hnd).2
  have c:∀ d,x.slot=Xa d→∀ a∈f,a.slot≠Xa d:=by
   intro d h a e k;rw [UW,h] at hnd;exact (U1.1 hnd).1 (Tl.2 ⟨a,e,k⟩)
  cases i with
  | zero =>
   cases j with
   | zero => rfl
   | succ j =>
    simp only [XM,Xf] at e;subst e;exact (c d hda b (Xo (by simpa using hb)) hdb).elim
  | succ i =>
   cases j with
   | zero =>
    simp only [XM,Xf] at hb;subst hb;exact (c d hdb a (Xo (by simpa using e)) hda).elim
   | succ j => rw [ZiZ f g i j a b d (by simpa using e) (by simpa using hb) hda hdb]
def ZbF (X:Nat→Nat→Option Nat) (a:List AK):Nat→Nat→Option Nat:=fun i k=>
 match a[i]? with
 | some (.own t _ _ _) => if k = 0 then X t 0 else Xe
 | some (.box d _ _ _) => X d k
 | _ => Xe
def ZbZ:List AK→Nat→Nat→Option (Nat×AK)
 | [], _, _ => Xe
 | a :: aZ, d, n => if a.slot = Xa d then Xa (n, a) else ZbZ aZ d (n + 1)
def Zd6:∀ (c:List AK) (d n m:Nat) (a:AK),ZbZ c d n=Xa (m,a)→∃ i,m=n+i∧c[i]? = Xa a∧a.slot=Xa d
 | [], _, _, _, _, h => by cases h
 | b :: c, d, n, m, a, h => by
  unfold ZbZ at h;split at h
  ·rename_i e;simp only [Xf,Xw] at h;obtain ⟨rfl,rfl⟩:=h;exact ⟨0,rfl,rfl,e⟩
  ·obtain ⟨i,j,f,g⟩:=Zd6 c d (n+1) m a h;exact ⟨i+1,by omega,by simpa using f,g⟩
def Zdz:∀ (c:List AK) (d n:Nat),ZbZ c d n=Xe→∀ a∈c,a.slot≠Xa d
 | [], _, _, _, a, ha => by simp at ha
 | b :: c, d, n, h, a, ha => by
  unfold ZbZ at h;split at h
  ·cases h
  ·rename_i e;rcases Xr.1 ha with rfl | ha
   ·exact e
   ·exact Zdz c d (n+1) h a ha
def XaA (X X':Nat→Nat→Option Nat) (a:List AK):Nat→Nat→Option Nat:=fun d k=>
 match ZbZ a d 0 with
 | some (i, .box _ _ _ _) => X' i k
 | some _ => Xe
 | none => X d k
def ZgG (x:AV):Prop:=ZoC x∨(∃ b e xs,x = .own b e xs)∨(∃ vs,x = .tuple vs)∨∃ cs,x = .box cs
def ZjP {P:Program} {w:World} {lim:Nat→Nat} {X X':Nat→Nat→Option Nat} {σ c:Nat→AV} {d a:Nat} {x:AV} {v:Value} (i:ZgG x) (h:Z2 P w lim X σ d x v) (g:X' a=X d):Z2 P w lim X' c a x v:=by
 rcases i with (⟨u,rfl⟩ | ⟨cs,rfl⟩ | ⟨f,s,xs,rfl⟩) | ⟨b,e,xs,rfl⟩ | ⟨vs,rfl⟩ | ⟨cs,rfl⟩
 ·exact h
 ·exact h
 ·exact h
 ·show Jt P w lim b e xs v (X' a 0);rw [g];exact h
 ·obtain ⟨us,j,k,l⟩:=h;refine ⟨us,j,k,?_⟩;rw [g];exact l
 ·show ZK P w lim (X' a) cs v;rw [g];exact h
def ZlS {P:Program} {w:World} {lim:Nat→Nat} {X X':Nat→Nat→Option Nat} {σ a:Nat→AV} {d b:Nat} {x:AV} {v:Value} (c:ZoC x) (h:Z2 P w lim X σ d x v):Z2 P w lim X' a b x v:=by
 rcases c with ⟨u,rfl⟩ | ⟨cs,rfl⟩ | ⟨f,s,xs,rfl⟩ <;> exact h
def AK.okV (P:Program) (a:Nat→Nat→Prop) (w:World) (lim:Nat→Nat) (X:Nat→Nat→Option Nat) (σ:Nat→AV) (c:Array Value) (v:Value):AK→Prop
 | .imm y => (Z2 P w lim X σ 0 y v ∧ ZoC y) ∨ ∃ d q e xs, Zy (σ d) q = Xa (e, xs) ∧ (P.cellsOf e ≠ 0 ∧ Zv P e = Xb) ∧ y = .slice Xb (P.cellsOf e) xs ∧ ZdH P w (X d q) e xs.length v ∧ a d q
 | .own t x e xs => σ t = .own x e xs ∧ v = c.getD t undef
 | .box d fr to cs => σ d = mkB fr cs ∧ ∃ b, X d 0 = Xa b ∧ ZK P w lim (X d) cs (.pointer (Xa ⟨b, 0, Xe⟩)) ∧ (fr = Xb → c.getD d undef = .pointer (Xa ⟨b, 0, Xe⟩)) ∧ (to = Xb → v = .pointer (Xa ⟨b, 0, Xe⟩))
 | .clo g ds _ => Z2 P w lim X σ 0 (.clo g ds) v
 | .ref t d q _ => σ t = .mref d q ∧ v = c.getD t undef
 | .pad => True
def Zvp (aks:List AK):Prop:=∀ (i:Nat) (g:FuncId) (ds a:List Nat),aks[i]? = Xa (.clo g ds a)→a.length=ds.length∧
 ∀ (k d j:Nat),ds[k]? = Xa d→a[k]? = Xa j→∃ b cs,aks[j]? = Xa (.box d b Xc cs)
def Zt5 (aks:List AK):Prop:=∀ (i t d q j:Nat),aks[i]? = Xa (.ref t d q j)→∃ a cs,aks[j]? = Xa (.box d a Xc cs)
def Y9 {P:Program} {w:World} {lim:Nat→Nat} {X:Nat→Option Nat} {cs:List AV} {v:Value} (h:ZK P w lim X cs v):∃ b,X 0=Xa b∧v = .pointer (Xa ⟨b,0,Xe⟩):=by
 obtain ⟨b,_,_,a,c,_⟩:=h;exact ⟨b,a,c⟩
def ZjI {c:Ctx} {σ:Nat→AV} {f:Array Value} {w:World} {lim:Nat→Nat} {X:Nat→Nat→Option Nat} (h:Sim c σ f w lim X) {d:Nat} {g:Bool} {cs:List AV} (k:σ d=mkB g cs) :
  ∃ b,X d 0=Xa b∧ZK c.P w lim (X d) cs (.pointer (Xa ⟨b,0,Xe⟩))∧(g=Xb→f.getD d undef = .pointer (Xa ⟨b,0,Xe⟩)):=by
 have i:=h.rel d;rw [k] at i
 cases g with
 | false =>
  have a:=(show ZK c.P w lim (X d) cs (f.getD d undef) from i);obtain ⟨b,j,e⟩:=Y9 a;exact ⟨b,j,by rw [← e];exact a,fun _=>e⟩
 | true =>
  obtain ⟨v,a⟩:=i;obtain ⟨b,j,e⟩:=Y9 a;exact ⟨b,j,by rw [← e];exact a,fun h=>by cases h⟩
def Zmg {T:Odr} (Bd Bq:Nat) (bp:List Nat) {P:Program} {o:Oper} {σ:Nat→AV} {cl:Call} {f:FuncId} {ds:List Nat} {tail:List Zbq} {aks:List AK} {res:AV} {outs:List AV} (ho:o.op = .call cl)
  (hcl:(cl.callee = .value (.func f)∧ds = [])∨∃ t,cl.callee = .value (.tmp t)∧σ t = .clo f ds)
  (hlen:(cl.args.toList.map Zbq.op++ds.map Zbq.cap++tail).length=aks.length) (hargs:∀ (i:Nat) (x:Zbq) (a:AK),(cl.args.toList.map Zbq.op++ds.map Zbq.cap++tail)[i]? = Xa x→aks[i]? = Xa a→a.ok P σ x)
  (htail:∀ x∈tail,x = .pad∨x = .ghost) (hcnt:cl.args.toList.length+ds.length+(aks.map AK.av).countP AV.isG≤aks.length) (hclo:Zvp aks) (hrf:Zt5 aks) (hnd:(aks.filterMap AK.slot).Nodup)
  (hol:outs.length=aks.length) (hout:∀ (i d:Nat) (fr to:Bool) (cs:List AV) (y:AV),aks[i]? = Xa (.box d fr to cs)→outs[i]? = Xa y→∃ cs',y=mkB to cs') (hres:ZgG res) (hrm:∀ e xs,res = .own Xc e xs→Zv P e=Xb)
  (hex:∀ (i t:Nat) (e:TypeId) (xs:List (List AV)),aks[i]? = Xa (.own t Xc e xs)→Yv T σ t [])
  (hbx:∀ (i d:Nat) (fr to:Bool) (cs:List AV),aks[i]? = Xa (.box d fr to cs)→ZcG cs∨Yv T σ d []∨∀ σ',T.rel σ σ'→∀ i k,Jz (σ' i) d k→∃ a∈aks,a.slot=Xa i)
  (hB:∀ (i:Nat) (x:Operand),cl.args.toList[i]? = Xa x→(∃ z,aks[i]? = Xa (.imm z))→∀ d q,getS P σ x = .mref d q→(∀ t e' ys,x = .tmp t→σ t≠.own Xc e' ys)→d=Bd∧q=Bq∧Bd∈bp∧(∀ a∈aks,a.slot≠Xa Bd)∧∀ i,Zhg (Z5 (outs++[res]) i)=Xc)
  (hcall:J2 P f (aks.map AK.av) res outs):Vr T P o σ res (Zc5 aks outs) (aks.filterMap AK.slot++bp):=by
 intro c hc σ' tm w lim X hid hag hT hsim next Q hn;subst hc;obtain ⟨⟨fn,hfn,hname,hbody⟩,hc2⟩:=hcall;have hslot:∀ a∈aks,∀ d,a.slot=Xa d→σ' d=σ d:=fun a ha d hd=>hag d (Xq.2 (.inl (Xq.2 (.inl (Tl.2 ⟨a,ha,hd⟩)))))
 have hops:∀ x∈cl.args.toList,x∈o.op.operands:=by
  intro x hx;rw [ho];rcases hcl with ⟨h,_⟩ | ⟨t,h,_⟩ <;> simp only [Op.operands,Call.operands,h]<;>simp [Array.mem_toList_iff.1 hx]
 have hg:∀ x∈cl.args.toList,getS c.P σ' x=getS c.P σ x:=fun x hx=>ZL fun t ht=>hid t (ZA (hops x hx) ht)
 -- the blocks of what the function value has captured
 obtain ⟨bs,hbl,hbs,hcv⟩:∃ bs:List Nat,bs.length=ds.length∧(∀ (i d b:Nat),ds[i]? = Xa d→bs[i]? = Xa b→X d 0=Xa b)∧
   (resolve (Act.eval ⟨tm,[]⟩) cl o.type).run c.P w = .ok { target:=.fn (.func f) (bs.map fun b=>Value.pointer (Xa ⟨b,0,Xe⟩)).toArray,args:=cl.args.map (Act.eval ⟨tm,[]⟩) } w:=by
  rcases hcl with ⟨h,rfl⟩ | ⟨t,h,ht⟩
  ·refine ⟨[],rfl,by simp,?_⟩;have hev:Act.eval ⟨tm,[]⟩ (.func f) = .func (.func f) #[] #[]:=rfl;simp [resolve,h,hev,Deferred.ofValue]
  ·have hr:=hsim.rel t;have htu:σ' t=σ t:=(hid t (ZA (x:=.tmp t) (by rw [ho];simp [Op.operands,Call.operands,h]) rfl)).eq fun cs e=>by rw [ht] at e;cases e
   rw [htu,ht] at hr;obtain ⟨bs,h1,h2,h3⟩:=hr;refine ⟨bs,h2,fun i d b hd hb=>(h3 i d b hd hb).1,?_⟩;have hev:Act.eval ⟨tm,[]⟩ (.tmp t)=tm.getD t undef:=rfl;simp [resolve,h,hev,h1,Deferred.ofValue]
 obtain ⟨cargs,hcargs⟩:∃ cargs:List Value,cargs=cl.args.toList.map (Act.eval ⟨tm,[]⟩)++bs.map (fun b=>Value.pointer (Xa ⟨b,0,Xe⟩)):=⟨_,rfl⟩;have hcl2:cargs.length=cl.args.toList.length+ds.length:=by rw [hcargs];simp [hbl]
 have hok:∀ (i:Nat) (a:AK),aks[i]? = Xa a→a.okV c.P (fun d q=>d=Bd∧q=Bq∧(∀ a∈aks,a.slot≠Xa Bd)∧∀ i,Zhg (Z5 (outs++[res]) i)=Xc) w lim X σ' tm (cargs.getD i undef):=by
  intro i a ha;have hlt:i < (cl.args.toList.map Zbq.op++ds.map Zbq.cap++tail).length:=by rw [hlen];exact (Xx.1 ha).1
  have hsrc:=Xm hlt;have h:=hargs i _ a hsrc ha;generalize hx:(cl.args.toList.map Zbq.op++ds.map Zbq.cap++tail)[i]=x at h hsrc;have hsl:∀ d,a.slot=Xa d→σ' d=σ d:=fun d hd=>hslot a (Xo ha) d hd
  have hbox:∀ d fr to cs,a = .box d fr to cs→σ d=mkB fr cs→σ' d=mkB fr cs∧∃ b,X d 0=Xa b∧ZK c.P w lim (X d) cs (.pointer (Xa ⟨b,0,Xe⟩))∧(fr=Xb→tm.getD d undef = .pointer (Xa ⟨b,0,Xe⟩)):=by
   intro d fr to cs he h1;have h3:σ' d=mkB fr cs:=(hsl d (by rw [he];rfl)).trans h1;exact ⟨h3,ZjI hsim h3⟩
  cases x with
  | op y =>
   -- an operand
   have hi:i < cl.args.toList.length:=by
    rcases XS i cl.args.toList.length with h0 | h0
    ·exact h0
    ·rw [XB,XG (by simpa using h0)] at hsrc;rcases Xq.1 (Xo hsrc) with hm | hm
     ·obtain ⟨_,_,e⟩:=Xs.1 hm;cases e
     ·rcases htail _ hm with e | e<;>cases e
   have hy:cl.args.toList[i]? = Xa y:=by
    rw [XB,XH (by simpa using hi),Xp] at hsrc;rw [Xm hi] at hsrc ⊢;simpa using hsrc
   have hv:cargs.getD i undef=Act.eval ⟨tm,[]⟩ y:=by
    rw [hcargs,TS,XH (by simpa using hi),Xp,hy];rfl
   have hgy:=hg y (Xo hy);rw [hv]
   cases a with
   | imm z =>
    have hrl:=(Kz hsim y 0).2;rw [hgy] at hrl;rcases h with h | ⟨d,q,e,xs,m1,m2,m3,m4⟩
    ·rw [h.1] at hrl;exact .inl ⟨hrl,h.2⟩
    ·rw [m1.1] at hrl;obtain ⟨b1,b2,b3,b4,b5⟩:=hB i y hy ⟨z,ha⟩ d q m1.1 m1.2;subst b1;have hsd:σ' d=σ d:=hag d (Xq.2 (.inl (Xq.2 (.inr b3))));obtain ⟨e',xs',n1,n2⟩:=hrl;rw [hsd,m2] at n1;simp only [Xf,Xw] at n1;obtain ⟨rfl,rfl⟩:=n1;exact .inr ⟨d,q,e,xs,by rw [hsd];exact m2,m3,m4,n2,rfl,b2,b4,b5⟩
   | own t x e xs =>
    obtain ⟨rfl,ht⟩:=h;exact ⟨(hsl t rfl).trans ht,rfl⟩
   | box d fr to cs =>
    obtain ⟨h1,h2,rfl,rfl⟩:=h;obtain ⟨k1,b,k2,k3,k4⟩:=hbox d Xb Xb cs rfl h2;refine ⟨k1,b,k2,k3,k4,fun _=>?_⟩;have h4:=(Kz hsim y 0).2;rw [hgy,h1] at h4;obtain ⟨b',_,m1,_,m3⟩:=h4;rw [k2] at m1
    cases m1
    exact m3
   | clo g ds gs =>
    have:=(Kz hsim y 0).2;rw [hgy,show getS c.P σ y = .clo g ds from h] at this;exact this
   | ref t d q j =>
    obtain ⟨rfl,ht⟩:=h;exact ⟨(hsl t rfl).trans ht,rfl⟩
   | pad => cases h
  | cap d' =>
   have hi:cl.args.toList.length≤i∧i-cl.args.toList.length < ds.length:=by
    rcases XS i cl.args.toList.length with h0 | h0
    ·rw [XB,XH (by simpa using h0)] at hsrc;obtain ⟨_,_,e⟩:=Xs.1 (Xo hsrc);cases e
    ·refine ⟨h0,?_⟩;rcases XS (i-cl.args.toList.length) ds.length with h1 | h1
     ·exact h1
     ·rw [XG (by rw [XD,Xi,Xi];omega)] at hsrc;rcases htail _ (Xo hsrc) with e | e<;>cases e
   have hd:ds[i-cl.args.toList.length]? = Xa d':=by
    rw [XB,XG (by simpa using hi.1),XH (by simpa using hi.2),Xp,Xi] at hsrc;rw [Xm hi.2] at hsrc ⊢;simpa using hsrc
   cases a with
   | box d fr to cs =>
    obtain ⟨rfl,h1,rfl⟩:=h;obtain ⟨k1,b,k2,k3,k4⟩:=hbox d' fr Xb cs rfl h1;refine ⟨k1,b,k2,k3,k4,fun _=>?_⟩;have hb:=Xm (l:=bs) (i:=i-cl.args.toList.length) (by rw [hbl];exact hi.2);have hbb:=hbs _ _ _ hd hb;rw [k2] at hbb;rw [hcargs,TS,XG (by simpa using hi.1),Xi,Xp,hb,← Uo hbb];rfl
   | imm _ => cases h
   | own _ _ _ => cases h
   | clo _ _ _ => cases h
   | ref _ _ _ _ => cases h
   | pad => cases h
  | ghost =>
   cases a with
   | box d fr to cs =>
    obtain ⟨h1,rfl⟩:=h;obtain ⟨k1,b,k2,k3,k4⟩:=hbox d fr Xc cs rfl h1;exact ⟨k1,b,k2,k3,k4,fun h=>by cases h⟩
   | imm _ => cases h
   | own _ _ _ => cases h
   | clo _ _ _ => cases h
   | ref _ _ _ _ => cases h
   | pad => cases h
  | pad =>
   cases a with
   | pad => trivial
   | imm _ => cases h
   | own _ _ _ => cases h
   | clo _ _ _ => cases h
   | ref _ _ _ _ => cases h
   | box _ _ _ _ => cases h
 have hget:∀ (i:Nat) (a:AK),aks[i]? = Xa a→Z5 (aks.map AK.av) i=a.av:=fun i a ha=>by simp [Z5,ha]
 -- the arguments as the callee sees them
 have hrel0:∀ i,(∀ z,aks[i]?≠Xa (.imm z))→Z2 c.P w lim (ZbF X aks) (Z5 (aks.map AK.av)) i (Z5 (aks.map AK.av) i) (cargs.getD i undef):=by
  intro i hni
  cases ha:aks[i]? with
  | none =>
   have:Z5 (aks.map AK.av) i = .dead:=by simp [Z5,ha]
   rw [this];trivial
  | some a =>
   rw [hget i a ha];have h:=hok i a ha
   cases a with
   | imm y => exact (hni y ha).elim
   | own t x e xs =>
    obtain ⟨ht,hv⟩:=h;have:=hsim.rel t;rw [ht] at this;have hX:ZbF X aks i 0=X t 0:=by simp [ZbF,ha]
    show Jt c.P w lim x e xs _ (ZbF X aks i 0);rw [hX,hv];exact this
   | box d fr to cs =>
    obtain ⟨h1,b,h2,h3,h4,h5⟩:=h;have hX:ZbF X aks i=X d:=by funext k;simp [ZbF,ha]
    cases to with
    | false =>
     show ZK c.P w lim (ZbF X aks i) cs _;rw [hX,h5 rfl];exact h3
    | true =>
     exact ⟨.pointer (Xa ⟨b,0,Xe⟩),by rw [hX];exact h3⟩
   | clo g es gs =>
    obtain ⟨l1,l2⟩:=hclo i g es gs ha;obtain ⟨bs',m1,m2,m3⟩:=h;refine ⟨bs',m1,by rw [m2,l1],fun k j b hj hb=>?_⟩;have hlt:k < es.length:=by rw [← m2];exact (Xx.1 hb).1
    obtain ⟨fr,cs,hbx⟩:=l2 k _ j (Xm hlt) hj;have hX:ZbF X aks j 0=X es[k] 0:=by simp [ZbF,hbx]
    exact ⟨by rw [hX];exact (m3 k _ b (Xm hlt) hb).1,by rw [hget j _ hbx];exact Zsz Xc cs⟩
   | ref t d q j =>
    obtain ⟨ht,hv⟩:=h;have hr:=hsim.rel t;rw [ht] at hr;obtain ⟨e,xs,n1,n2⟩:=hr;obtain ⟨fr,cs,hb⟩:=hrf i t d q j ha;have hX:ZbF X aks j q=X d q:=by simp [ZbF,hb]
    rw [(hok j _ hb).1,ZgN fr Xc] at n1;exact ⟨e,xs,by rw [hget j _ hb];exact n1,by rw [hX,hv];exact n2⟩
   | pad => trivial
 have hXof:∀ i k b,ZbF X aks i k=Xa b→∃ a d,aks[i]? = Xa a∧a.slot=Xa d∧X d k=Xa b:=by
  intro i k b h;unfold ZbF at h;split at h
  ·rename_i t x e xs ha;split at h
   ·rename_i hk;subst hk;exact ⟨_,t,ha,rfl,h⟩
   ·cases h
  ·rename_i d fr to cs ha;exact ⟨_,d,ha,rfl,h⟩
  ·cases h
 have hdist:ZlZ (ZbF X aks):=by
  intro i k i' k' b h h';obtain ⟨a,d,h1,h2,h3⟩:=hXof i k b h;obtain ⟨a',d',h1',h2',h3'⟩:=hXof i' k' b h';obtain ⟨e1,e2⟩:=hsim.dist d k d' k' b h3 h3';subst e1;exact ⟨ZiZ aks hnd i i' a a' d h1 h1' h2 h2',e2⟩
 have hsize:∀ i k b,ZbF X aks i k=Xa b→b < w.heap.size:=by
  intro i k b h;obtain ⟨a,d,h1,h2,h3⟩:=hXof i k b h;exact (hsim.ours d k b h3).1
 have hlc:cargs.length+(aks.map AK.av).countP AV.isG≤(aks.map AK.av).length:=by rw [hcl2,Xi];exact hcnt
 have hcalls:Calls c.P f cargs.toArray w fun e w'=>∃ v lim' X',e = .returned v∧Jc w lim w' lim' (fun b=>∃ i k,ZbF X aks i k=Xa b)∧outs.length=(aks.map AK.av).length∧
   (∀ i,Z2 c.P w' lim' X' (Z5 (outs++[res])) i (Z5 (outs++[res]) i) (ZaO (aks.map AK.av).length cargs v i))∧ZlZ X'∧
   (∀ i k b,X' i k=Xa b→b < w'.heap.size∧((∃ i k,ZbF X aks i k=Xa b)∨w.heap.size≤b))∧∀ i,(Z5 (outs++[res]) i).isG=Xc→(Z5 (aks.map AK.av) i).isG=Xc∧X' i 0=ZbF X aks i 0:=by
  by_cases hbor:∃ e xs b0,Zy (σ' Bd) Bq=Xa (e,xs)∧X Bd Bq=Xa b0∧(∀ a∈aks,a.slot≠Xa Bd)∧(c.P.cellsOf e≠0∧Zv c.P e=Xb)∧∀ i,Zhg (Z5 (outs++[res]) i)=Xc
  ·obtain ⟨e,xs,b0,p1,p2,p3,p4,p5⟩:=hbor;obtain ⟨v0,ho⟩:=VJ hsim p1;rw [p2] at ho;obtain ⟨arr,cap,r1,r2,r3,r4,r5,r6,r7,r8,r9⟩:=VF ho (.inl p4.2)
   have hX0:∀ i k,ZbF X aks i k≠Xa b0:=by
    intro i k hb;obtain ⟨a,d,q1,q2,q3⟩:=hXof i k b0 hb;obtain ⟨e1,_⟩:=hsim.dist d k Bd Bq b0 q3 p2;subst e1;exact p3 a (Xo q1) q2
   have hext:Ext w lim w (Vv lim b0 (xs.length*c.P.cellsOf e)):=by
    intro b _;refine ⟨?_,fun _ _ _ hu=>hu⟩;unfold Vv;split
    ·rename_i hbb;rw [hbb,r3];exact X7 _
    ·exact Xt _
   refine J2.borrow ⟨⟨fn,hfn,hname,hbody⟩,hc2⟩ p5 (N:=xs.length*c.P.cellsOf e) (hsim.ours Bd Bq b0 p2).1 r3 hX0 hlc (fun i=>?_) hdist hsize;by_cases him:∃ z,aks[i]? = Xa (.imm z)
   ·obtain ⟨z,ha⟩:=him;rw [hget i _ ha];rcases hok i _ ha with h | ⟨d,q,e',xs',n1,n2,n3,n4,n5,n6,_⟩
    ·obtain ⟨h1,h2⟩:=h;rcases h2 with ⟨u,rfl⟩ | ⟨cs,rfl⟩ | ⟨f,s,xs,rfl⟩ <;> exact Rep.mono hext (show Rep w lim _ _ from h1)
    ·subst n5;subst n6;subst n3;rw [p1] at n1;simp only [Xf,Xw] at n1;obtain ⟨rfl,rfl⟩:=n1;rcases n4 with ⟨k1,_⟩ | ⟨b,arr',cap',k1,k2,k3,k4⟩ | ⟨k0,_⟩
     ·rw [p2] at k1;cases k1
     ·rw [p2] at k1;have hbb:b0=b:=Uo k1;subst hbb;rw [r2] at k2;simp only [Xf,Obj.cells.injEq,and_true] at k2;subst k2;have hcap:cap'=cap:=TT (by have:=p4.1;omega) (k3.symm.trans r6);subst hcap;rw [k4,← r1];exact Jt.rep (ZcC ho p4.2 hext) Xb rfl
     ·rw [n2.2] at k0;cases k0
   ·exact (hrel0 i fun z hz=>him ⟨z,hz⟩).mono hext (fun k b hb=>⟨rfl,P3 fun (hbb:b=b0)=>hX0 i k (by rw [← hbb];exact hb)⟩) fun d' k b _ _=>.of rfl
  ·refine hc2 w lim (ZbF X aks) cargs hlc (fun i=>?_) hdist hsize;by_cases him:∃ z,aks[i]? = Xa (.imm z)
   ·obtain ⟨z,ha⟩:=him;rw [hget i _ ha];rcases hok i _ ha with h | ⟨d,q,e',xs',n1,n2,n3,n4,n5,n6,n7,n8⟩
    ·exact ZlS h.2 h.1
    ·subst n5;subst n6;subst n3;rcases n4 with ⟨_,k2,k3⟩ | ⟨b,arr,cap,k2,_⟩ | ⟨k0,_⟩
     ·have:xs' = []:=Uh k2;subst this;rcases k3 with k3 | ⟨a,k3⟩
      ·show Rep w lim _ _;rw [k3];exact .sliceN
      ·show Rep w lim _ _;rw [k3];exact .sliceE fun h=>by cases h
     ·exact (hbor ⟨e',xs',b,n1,k2,n7,n2,n8⟩).elim
     ·rw [n2.2] at k0;cases k0
   ·exact hrel0 i fun z hz=>him ⟨z,hz⟩
 have hrun:(execOp (Act.eval ⟨tm,[]⟩) o).run c.P w = .ok (.enter f cargs.toArray) w:=by
  have harr:cl.args.map (Act.eval ⟨tm,[]⟩)++(bs.map fun b=>Value.pointer (Xa ⟨b,0,Xe⟩)).toArray=cargs.toArray:=by
   apply XZ.1;rw [hcargs];simp
  simp only [execOp,ho,Sem.run_bind,hcv,Result.andThen_ok,invoke,callFunc,run_program,hfn,hname,hbody];rw [harr];rfl
 unfold Oper.wp;rw [hrun,Oper.upon_enter];refine hcalls.mono ?_;rintro e w' ⟨v,lim',X',rfl,hstep,hl',hrel',hdist',hours',hgh'⟩;refine hn v w' ?_
 -- what the slots are behind the call
 have hpass:∀ d,(∃ i a,ZbZ aks d 0=Xa (i,a)∧aks[i]? = Xa a∧a.slot=Xa d)∨(ZbZ aks d 0=Xe∧∀ a∈aks,a.slot≠Xa d):=by
  intro d
  cases hf:ZbZ aks d 0 with
  | none => exact .inr ⟨rfl, Zdz aks d 0 hf⟩
  | some p =>
   obtain ⟨m,a⟩:=p;obtain ⟨i,h1,h2,h3⟩:=Zd6 aks d 0 m a hf;rw [XW] at h1;subst h1;exact .inl ⟨m,a,rfl,h2,h3⟩
 have houtAt:∀ i a,aks[i]? = Xa a→∃ y,outs[i]? = Xa y:=fun i a ha=>⟨_,Xm (by rw [hol];exact (Xx.1 ha).1)⟩
 have hret:∀ i,i < aks.length→ZaO (aks.map AK.av).length cargs v i=cargs.getD i undef:=by
  intro i hi;unfold ZaO;rw [P3 (by rw [Xi];omega)]
 have hboxOut:∀ i d fr to cs,aks[i]? = Xa (.box d fr to cs)→∃ cs' b,outs[i]? = Xa (mkB to cs')∧ZK c.P w' lim' (X' i) cs' (.pointer (Xa ⟨b,0,Xe⟩))∧(fr=Xb→tm.getD d undef = .pointer (Xa ⟨b,0,Xe⟩))∧X' i 0=Xa b∧X d 0=Xa b∧
   JV σ' (Zc5 aks outs) d=mkB fr cs':=by
  intro i d fr to cs ha;obtain ⟨y,hy⟩:=houtAt i _ ha;obtain ⟨cs',rfl⟩:=hout i d fr to cs y ha hy;have h1:=hrel' i;have hlt:i < outs.length:=(Xx.1 hy).1
  have ho1:Z5 (outs++[res]) i=mkB to cs':=by
   simp only [Z5];rw [XH hlt,hy];rfl
  obtain ⟨k1,b,k2,k3,k4,k5⟩:=hok i _ ha;rw [ho1,hret i (by rw [← hol];exact hlt)] at h1;have hup:=Yx aks outs σ' i (.box d fr to cs) (mkB to cs') d hol.symm hnd ha hy rfl;simp only [Zwx] at hup
  have hpl:ZK c.P w' lim' (X' i) cs' (.pointer (Xa ⟨b,0,Xe⟩))∧X' i 0=Xa b:=by
   cases to with
   | false =>
    rw [k5 rfl] at h1;have hp:ZK c.P w' lim' (X' i) cs' (.pointer (Xa ⟨b,0,Xe⟩)):=h1;obtain ⟨b',m1,m2⟩:=Y9 hp;simp only [Value.pointer.injEq,Xf,Addr.mk.injEq,and_true] at m2;exact ⟨hp,by rw [m1,m2]⟩
   | true =>
    obtain ⟨v',hp⟩:=(show ∃ v',ZK c.P w' lim' (X' i) cs' v' from h1);have hgx:=(hgh' i (by rw [ho1];rfl)).2;have hX:ZbF X aks i 0=X d 0:=by simp [ZbF,ha]
    obtain ⟨b',m1,m2⟩:=Y9 hp;rw [hgx,hX,k2] at m1
    cases m1
    exact ⟨by rw [← m2];exact hp,by rw [hgx,hX,k2]⟩
  exact ⟨cs',b,hy,hpl.1,k4,hpl.2,k2,hup⟩
 have hafter:Sim c (JV σ' (Zc5 aks outs)) tm w' lim' (XaA X X' aks):=by
  have hSours:∀ b,(∃ i k,ZbF X aks i k=Xa b)→c.A b∨c.w0.heap.size≤b:=by
   rintro b ⟨i,k,h⟩;obtain ⟨a,d,_,_,h3⟩:=hXof i k b h;exact (hsim.ours d k b h3).2
  have hXa:∀ d k b,XaA X X' aks d k=Xa b→(∃ i a fr to cs,ZbZ aks d 0=Xa (i,a)∧aks[i]? = Xa (.box d fr to cs)∧X' i k=Xa b)∨(ZbZ aks d 0=Xe∧(∀ a∈aks,a.slot≠Xa d)∧X d k=Xa b):=by
   intro d k b h;unfold XaA at h;rcases hpass d with ⟨i,a,h1,h2,h3⟩ | ⟨h1,h2⟩
   ·rw [h1] at h
    cases a with
    | imm y => simp at h
    | own t x e xs => simp at h
    | clo _ _ _ => simp at h
    | ref _ _ _ _ => simp at h
    | pad => simp at h
    | box d' fr to cs =>
     simp only [AK.slot,Xf] at h3;subst h3;exact .inl ⟨i,_,fr,to,cs,h1,h2,h⟩
   ·rw [h1] at h;exact .inr ⟨h1,h2,h⟩
  have hXold:∀ d k b,(∀ a∈aks,a.slot≠Xa d)→X d k=Xa b→¬ ∃ i k,ZbF X aks i k=Xa b:=by
   rintro d k b hno hb ⟨i,k',h⟩;obtain ⟨a,d',h1,h2,h3⟩:=hXof i k' b h;obtain ⟨e1,_⟩:=hsim.dist d k d' k' b hb h3;subst e1;exact hno a (Xo h1) h2
  -- a box of the caller's stays one
  have hkeep:∀ d' gh cs,σ' d'=mkB gh cs→(∃ cs',JV σ' (Zc5 aks outs) d'=mkB gh cs'∧((∀ a∈aks,a.slot≠Xa d')→cs'=cs))∧XaA X X' aks d' 0=X d' 0:=by
   intro d' gh cs hd';rcases hpass d' with ⟨i,a,k1,k2,k3⟩ | ⟨k1,k2⟩
   ·cases a with
    | imm y => simp [AK.slot] at k3
    | clo _ _ _ => simp [AK.slot] at k3
    | pad => simp [AK.slot] at k3
    | own t x e xs =>
     simp only [AK.slot,Xf] at k3;subst k3;have:=hok i _ k2;rw [this.1] at hd'
     cases gh<;>cases hd'
    | ref t x e xs =>
     simp only [AK.slot,Xf] at k3;subst k3;have:=hok i _ k2;rw [this.1] at hd'
     cases gh<;>cases hd'
    | box d'' fr to cs'' =>
     simp only [AK.slot,Xf] at k3;subst k3;obtain ⟨cs',b,g1,g2,g3,g4,g5,g6⟩:=hboxOut i d'' fr to cs'' k2;have hkk:=(hok i _ k2).1;rw [hd'] at hkk;have hfg:gh=fr:=by have:=congrArg AV.isG hkk;rwa [Zfu,Zfu] at this
     subst hfg;refine ⟨⟨cs',g6,fun hno=>(hno _ (Xo k2) rfl).elim⟩,?_⟩;simp only [XaA,k1];rw [g4,g5]
   ·exact ⟨⟨cs,by rw [Jh aks outs σ' d' k2];exact hd',fun _=>rfl⟩,by simp only [XaA,k1]⟩
  have hkb:∀ d' cs,σ' d' = .box cs→(∃ cs',JV σ' (Zc5 aks outs) d' = .box cs')∧XaA X X' aks d' 0=X d' 0:=by
   intro d' cs hd';obtain ⟨⟨cs',h1,_⟩,h3⟩:=hkeep d' Xb cs hd';exact ⟨⟨cs',h1⟩,h3⟩
  -- what is referred to is not handed over
  have href:∀ i d' k,Jz (σ' i) d' k→(∀ a∈aks,a.slot≠Xa i)→∀ a∈aks,a.slot≠Xa d':=by
   intro i d' k hr hni a ha hs;obtain ⟨p,hp⟩:=VC hsim hr;obtain ⟨j,hj⟩:=X6.1 ha;have hk:=hok j a hj
   cases a with
   | imm y => simp [AK.slot] at hs
   | clo _ _ _ => simp [AK.slot] at hs
   | pad => simp [AK.slot] at hs
   | ref t x e xs =>
    simp only [AK.slot,Xf] at hs;subst hs;rw [hk.1] at hp;simp [Zy] at hp
   | own t x e xs =>
    simp only [AK.slot,Xf] at hs;subst hs
    cases x with
    | false => rw [hk.1] at hp; simp [Zy] at hp
    | true =>
     obtain ⟨h1,h2⟩:=(hex j t e xs hj).all hT;by_cases hit:i=t
     ·subst hit;rw [hk.1] at hr;rcases hr with hr | ⟨_,hr⟩ <;> cases hr
     ·have:=h2 i k hit hr
      cases this
   | box t fr to cs =>
    simp only [AK.slot,Xf] at hs;subst hs;rw [hk.1,ZgN fr Xb] at hp;rcases hbx j t fr to cs hj with hnr | hdr | hdr
    ·cases k with
     | zero => simp [mkB, Zy] at hp
     | succ k =>
      simp only [mkB,Zy] at hp;split at hp
      ·rename_i e xs hx;exact hnr _ (Xo hx) e xs rfl
      ·cases hp
    ·obtain ⟨h1,h2⟩:=hdr.all hT;by_cases hit:i=t
     ·subst hit;rw [hk.1] at hr
      cases fr<;>rcases hr with hr | ⟨_,hr⟩ <;> cases hr
     ·have:=h2 i k hit hr
      cases this
    ·obtain ⟨a,ha',hsa⟩:=hdr σ' hT i k hr;exact hni a ha' hsa
  have hkg:∀ d',(σ' d').isG=Xc→(JV σ' (Zc5 aks outs) d').isG=Xc∧XaA X X' aks d' 0=X d' 0:=by
   intro d' hd'
   obtain ⟨cs,hcs⟩:∃ cs,σ' d'=mkB Xc cs:=by
    generalize σ' d'=x at hd'
    cases x<;>simp [AV.isG] at hd'
    exact ⟨_,rfl⟩
   obtain ⟨⟨cs',h1,_⟩,h3⟩:=hkeep d' Xc cs hcs;exact ⟨by rw [h1];rfl,h3⟩
  refine ⟨fun d=>?_,hsim.size,fun d hd=>?_,fun d hd=>?_,fun d k d' k' b h h'=>?_,fun d k b h=>?_,hsim.frm.step hstep hSours,fun d v hv=>?_,fun d e xs hdo=>?_,fun d b hb=>?_⟩
  ·rcases hpass d with ⟨i,a,h1,h2,h3⟩ | ⟨h1,h2⟩
   ·cases a with
    | imm y => simp [AK.slot] at h3
    | clo _ _ _ => simp [AK.slot] at h3
    | pad => simp [AK.slot] at h3
    | own t x e xs =>
     simp only [AK.slot,Xf] at h3;subst h3;obtain ⟨y,hy⟩:=houtAt i _ h2;rw [Yx aks outs σ' i (.own t x e xs) y t hol.symm hnd h2 hy rfl];trivial
    | ref t x e xs =>
     simp only [AK.slot,Xf] at h3;subst h3;obtain ⟨y,hy⟩:=houtAt i _ h2;rw [Yx aks outs σ' i (.ref t x e xs) y t hol.symm hnd h2 hy rfl];trivial
    | box d' fr to cs =>
     simp only [AK.slot,Xf] at h3;subst h3;obtain ⟨cs',b,g1,g2,g3,g4,g5,g6⟩:=hboxOut i d' fr to cs h2;rw [g6];have hrow:XaA X X' aks d'=X' i:=by funext k;simp only [XaA,h1]
     cases fr with
     | false =>
      show ZK c.P w' lim' (XaA X X' aks d') cs' _;rw [hrow,g3 rfl];exact g2
     | true => exact ⟨_, by rw [hrow]; exact g2⟩
   ·rw [Jh aks outs σ' d h2]
    have hm:=(hsim.rel d).mono hstep.ext (fun k b hb=>hstep.blk b (hsim.ours d k b hb).1 (hXold d k b h2 hb)) fun d' k b he hb=>
     .of (hstep.blk b (hsim.ours d' k b hb).1 (hXold d' k b (href d d' k (.inl he) h2) hb)).1
    refine hm.chg (by funext k;simp only [XaA,h1]) hkb hkg fun d' k hr=>?_;have hno:=href d d' k hr h2;refine ⟨by rw [Jh aks outs σ' d' hno];exact Wg.refl _ _,?_⟩;rcases hpass d' with ⟨i,a,_,k2,k3⟩ | ⟨k1,_⟩
    ·exact (hno a (Xo k2) k3).elim
    ·simp only [XaA,k1]
  ·rcases hsim.out d hd with h | h
   ·left
    have hno:∀ a∈aks,a.slot≠Xa d:=by
     intro a ha hs;obtain ⟨i,hi⟩:=X6.1 ha;have hok':=hok i a hi
     cases a with
     | imm y => simp [AK.slot] at hs
     | clo _ _ _ => simp [AK.slot] at hs
     | pad => simp [AK.slot] at hs
     | own t x e xs =>
      simp only [AK.slot,Xf] at hs;subst hs;rw [hok'.1] at h
      cases h
     | ref t x e xs =>
      simp only [AK.slot,Xf] at hs;subst hs;rw [hok'.1] at h
      cases h
     | box t fr to cs =>
      simp only [AK.slot,Xf] at hs;subst hs;rw [hok'.1] at h
      cases fr<;>cases h
    rw [Jh aks outs σ' d hno];exact h
   ·exact .inr (hkg d h).1
  ·rcases hpass d with ⟨i,a,h1,h2,h3⟩ | ⟨h1,h2⟩
   ·cases a with
    | imm y => simp [AK.slot] at h3
    | clo _ _ _ => simp [AK.slot] at h3
    | pad => simp [AK.slot] at h3
    | own t x e xs =>
     simp only [AK.slot,Xf] at h3;subst h3;obtain ⟨y,hy⟩:=houtAt i _ h2;rw [Yx aks outs σ' i (.own t x e xs) y t hol.symm hnd h2 hy rfl] at hd
     cases hd
    | ref t x e xs =>
     simp only [AK.slot,Xf] at h3;subst h3;obtain ⟨y,hy⟩:=houtAt i _ h2;rw [Yx aks outs σ' i (.ref t x e xs) y t hol.symm hnd h2 hy rfl] at hd
     cases hd
    | box d' fr to cs =>
     simp only [AK.slot,Xf] at h3;subst h3;obtain ⟨cs',b,g1,g2,g3,g4,g5,g6⟩:=hboxOut i d' fr to cs h2;rw [g6,Zfu] at hd;exact hsim.ghost d' (by rw [(hok i _ h2).1,Zfu];exact hd)
   ·rw [Jh aks outs σ' d h2] at hd;exact hsim.ghost d hd
  ·rcases hXa d k b h with ⟨i,a,fr,to,cs,g1,g2,g3⟩ | ⟨g1,g2,g3⟩ <;> rcases hXa d' k' b h' with ⟨i',a',fr',to',cs',g1',g2',g3'⟩ | ⟨g1',g2',g3'⟩
   ·obtain ⟨e1,e2⟩:=hdist' i k i' k' b g3 g3';subst e1;rw [g2] at g2';simp only [Xf,AK.box.injEq] at g2';exact ⟨g2'.1,e2⟩
   ·rcases (hours' i k b g3).2 with hS | hS
    ·exact (hXold d' k' b g2' g3' hS).elim
    ·have:=(hsim.ours d' k' b g3').1;omega
   ·rcases (hours' i' k' b g3').2 with hS | hS
    ·exact (hXold d k b g2 g3 hS).elim
    ·have:=(hsim.ours d k b g3).1;omega
   ·exact hsim.dist d k d' k' b g3 g3'
  ·rcases hXa d k b h with ⟨i,a,fr,to,cs,g1,g2,g3⟩ | ⟨g1,g2,g3⟩
   ·refine ⟨(hours' i k b g3).1,?_⟩;rcases (hours' i k b g3).2 with hS | hS
    ·exact hSours b hS
    ·exact .inr (XN hsim.frm.size hS)
   ·exact ⟨Uj (hsim.ours d k b g3).1 hstep.size,(hsim.ours d k b g3).2⟩
  ·obtain ⟨p1,cs,p2⟩:=hsim.pin d v hv;obtain ⟨⟨cs',h1⟩,_⟩:=hkb d cs p2;exact ⟨p1,cs',h1⟩
  ·rcases hpass d with ⟨i,a,h1,h2,h3⟩ | ⟨h1,h2⟩
   ·exfalso
    cases a with
    | imm y => simp [AK.slot] at h3
    | clo _ _ _ => simp [AK.slot] at h3
    | pad => simp [AK.slot] at h3
    | own t x e xs =>
     simp only [AK.slot,Xf] at h3;subst h3;obtain ⟨y,hy⟩:=houtAt i _ h2;rw [Yx aks outs σ' i (.own t x e xs) y t hol.symm hnd h2 hy rfl] at hdo
     cases hdo
    | ref t x e xs =>
     simp only [AK.slot,Xf] at h3;subst h3;obtain ⟨y,hy⟩:=houtAt i _ h2;rw [Yx aks outs σ' i (.ref t x e xs) y t hol.symm hnd h2 hy rfl] at hdo
     cases hdo
    | box d' fr to cs =>
     simp only [AK.slot,Xf] at h3;subst h3;obtain ⟨cs',b,g1,g2,g3,g4,g5,g6⟩:=hboxOut i d' fr to cs h2;rw [g6] at hdo
     cases fr<;>cases hdo
   ·rw [Jh aks outs σ' d h2] at hdo;rw [show XaA X X' aks d=X d from by funext k;simp only [XaA,h1]];exact (hsim.mp d e xs hdo).mono hstep.ext fun k b hb=>hstep.blk b (hsim.ours d k b hb).1 (hXold d k b h2 hb)
  ·obtain ⟨p1,p2⟩:=hsim.gpin d b hb;obtain ⟨h1,h2⟩:=hkg d p2;exact ⟨h2.trans p1,h1⟩
 -- the result
 have hresv:Z2 c.P w' lim' X' (Z5 (outs++[res])) aks.length res v:=by
  have h1:=hrel' aks.length
  have ho1:Z5 (outs++[res]) aks.length=res:=by
   simp only [Z5];rw [XG (by omega),hol];simp
  have hv:ZaO (aks.map AK.av).length cargs v aks.length=v:=by
   unfold ZaO;rw [P4 (by rw [Xi])]
  rw [ho1,hv] at h1;exact h1
 have hresg:res.isG=Xb:=by
  rcases hres with (⟨u,rfl⟩ | ⟨cs,rfl⟩ | ⟨f,s,xs,rfl⟩) | ⟨b,e,xs,rfl⟩ | ⟨vs,rfl⟩ | ⟨cs,rfl⟩ <;> rfl
 cases hdst:o.dst with
 | none => exact ⟨lim', _, hafter⟩
 | some d =>
  intro hd hm;refine ⟨lim',_,hafter.putRow (X' aks.length) (Jc.refl w' lim' (fun _=>False)) (fun _ hs=>hs.elim) hd (tm':=tm.setIfInBounds d v) (by simp) (fun i hi=>Jj tm d i v hi) (.inl (Z3 hm).1) (fun i q hi hr=>(hafter.noRefs (Z3 hm).none i q hi hr).elim) ?_ (fun k b hk=>⟨(hours' _ k b hk).1,?_,fun i j hi hij=>?_⟩) (fun k k' b hk hk'=>(hdist' _ k _ k' b hk hk').2) hresg (fun e xs he=>.noMap (hrm e xs he))⟩
  ·rw [Yr tm d v (by rw [hsim.size];exact hd)];exact ZjP hres hresv (Zx _ d _)
  ·rcases (hours' _ k b hk).2 with ⟨i,k',hS⟩ | hS
   ·obtain ⟨a,d',_,_,h3⟩:=hXof i k' b hS;exact (hsim.ours d' k' b h3).2
   ·exact .inr (XN hsim.frm.size hS)
  ·unfold XaA at hij;rcases hpass i with ⟨m,a,h1,h2,h3⟩ | ⟨h1,h2⟩
   ·rw [h1] at hij
    cases a with
    | imm y => simp at hij
    | own t x e xs => simp at hij
    | clo _ _ _ => simp at hij
    | ref _ _ _ _ => simp at hij
    | pad => simp at hij
    | box d' fr to cs =>
     obtain ⟨e1,_⟩:=hdist' _ _ _ _ b hk hij;have:=(Xx.1 h2).1;omega
   ·rw [h1] at hij;rcases (hours' _ k b hk).2 with ⟨i',k',hS⟩ | hS
    ·obtain ⟨a,d',g1,g2,g3⟩:=hXof i' k' b hS;obtain ⟨e1,_⟩:=hsim.dist i j d' k' b hij g3;subst e1;exact h2 a (Xo g1) g2
    ·have:=(hsim.ours i j b hij).1;omega
def ZeE {P:Program} {o:Oper} {σ:Nat→AV} {f:FuncId} {g a:Array Operand} {ds:List Nat} (v:o.op = .makeFunc (.func f) g a) (D:g.toList = [])
  (z:a.toList.length=ds.length) (E:∀ (i:Nat) (x:Operand) (d:Nat),(a.toList)[i]? = Xa x→ds[i]? = Xa d→getS P σ x = .ptr d 0∧∃ cs,σ d = .box cs):J3 P o σ (.clo f ds) [] ds:=by
 have r:g = #[]:=by apply XZ.1;rw [D]
 refine ZD ds rfl fun c s t u w lim X A G m=>⟨.func (.func f) #[] (a.map (Act.eval ⟨u,[]⟩)),?_,?_⟩
 ·simp [execOp,v,Instr.makeFunc,r]
 ·have n:∀ i:Nat,∃ b:Nat,∀ (x:Operand) (d:Nat),(a.toList)[i]? = Xa x→ds[i]? = Xa d→Act.eval ⟨u,[]⟩ x = .pointer (Xa ⟨b,0,Xe⟩)∧X d 0=Xa b∧(t d).isB=Xc:=by
   intro i
   cases k:a.toList[i]? with
   | none => exact ⟨0, fun x d h => by cases h⟩
   | some x =>
    cases q:ds[i]? with
    | none => exact ⟨0, fun x d _ h => by cases h⟩
    | some d =>
     obtain ⟨H,cs,S⟩:=E i x d k q;rw [v] at A
     have J:=YU s m H (A x (by
      have:=Xo k;simp [Op.operands,Array.mem_toList_iff.1 this]))
     obtain ⟨b,L,M,N,O⟩:=J;refine ⟨b,fun y e Q R=>?_⟩
     cases Q
     cases R
     exact ⟨O,M,by rw [N];rfl⟩
  obtain ⟨C,l⟩:=Classical.axiomOfChoice n;have p:∀ i,i < ds.length→∃ x,a.toList[i]? = Xa x:=fun i j=>⟨_,Xm (by rw [z];exact j)⟩;refine ⟨(XK ds.length).map C,?_,by simp,fun i d b q n=>?_⟩
  ·have:a.map (Act.eval ⟨u,[]⟩)=(((XK ds.length).map C).map fun b=>Value.pointer (Xa ⟨b,0,Xe⟩)).toArray:=by
    apply XZ.1;rw [Array.toList_map];apply UO;intro i;rw [Xp,Xp,Xp];by_cases j:i < ds.length
    ·obtain ⟨x,k⟩:=p i j;rw [k,TU j];simp only [XA];exact congrArg Xa (l i x _ k (Xm j)).1
    ·rw [Ur (by rw [z];omega),Ur (by simp;omega)];rfl
   rw [this]
  ·have j:=(Xx.1 q).1;obtain ⟨x,k⟩:=p i j;rw [Xp,TU j] at n;simp only [XA,Xf] at n;subst n;exact ⟨(l i x d k q).2.1,(l i x d k q).2.2⟩
def ZN (y:AV) (k:Nat) (b:Bool) (e:TypeId) (xs:List (List AV)):AV:=
 match y,k with
 | .own _ _ _, 0 => .own b e xs
 | .box cs, k + 1 => .box (cs.set k (.own b e xs))
 | y, _ => y
def Wn {w:World} {b:Nat} {a cs:Array Value} {t:TypeId} (d:w.heap[b]? = Xa (.cells a t (0,0))) (g:cs.size=a.size) (b':Nat):ZaN w (w.setRow b cs) b':=by
 by_cases h:b'=b
 ·subst h;refine ⟨fun arr e c=>?_,fun i f c=>?_⟩
  ·rw [d] at c;simp only [Xf,Obj.cells.injEq,and_true] at c;obtain ⟨rfl,rfl⟩:=c;exact ⟨cs,setRow_heap w b' a cs t _ d,g⟩
  ·rw [d] at c;cases c
 ·exact .of (setRow_other w b b' cs h)
def Sim.setPlace {c:Ctx} {σ:Nat→AV} {Z:Array Value} {w:World} {lim:Nat→Nat} {X:Nat→Nat→Option Nat} (h:Sim c σ Z w lim X) {d k b:Nat} {e:TypeId} {xs xs':List (List AV)} {arr arr':Array Value}
  (hp:Zy (σ d) k=Xa (e,xs)) (G:(σ d).isG=Xb) (r:X d k=Xa b) (a:w.heap[b]? = Xa (.cells arr e (0,0))) (A:arr'.size=arr.size) (O:xs'.length=xs.length) (h1:∀ x∈xs',x.length=c.P.cellsOf e) (h2:∀ x∈xs',∀ z∈x,z.isCell=Xc)
  (Q:∀ (j:Nat) (z:AV) (u:Value),xs'.flatten[j]? = Xa z→arr'[j]? = Xa u→Rep w lim z u) :
  ∃ X',Sim c (upd σ d (ZN (σ d) k Xc e xs')) Z (w.setRow b arr') lim X':=by
 have s:∀ v,Jt c.P w lim Xc e xs v (Xa b)→Jt c.P (w.setRow b arr') lim Xc e xs' v (Xa b):=by
  intro v g;obtain ⟨t,cap,M,H,g3,g4,g5,g6,g7,g8,g9⟩:=VF g (.inr ⟨_,_,_,a⟩);rw [a] at H;simp only [Xf,Obj.cells.injEq,and_true] at H;subst H;have f:=JA (cs:=arr') a g3;rw [M,← O];exact ZaZ (setRow_heap w b arr arr' e _ a) g3 (by omega) g5 (by rw [A];exact g6) h1 h2 fun j z u hz N=>(Q j z u hz N).mono f.ext
 have J:lim b=0:=by
  obtain ⟨v,g⟩:=VJ h hp;rw [r] at g;obtain ⟨_,_,_,_,g3,_⟩:=VF g (.inr ⟨_,_,_,a⟩);exact g3
 have f:=JA (cs:=arr') a J;have m:=h.rel d;rcases ZI hp with ⟨g,rfl⟩ | ⟨cs,q,g,rfl,hq⟩ | ⟨cs,q,g,rfl,hq⟩
 case inr.inr=>rw [g] at G;cases G
 ·have C:d < c.nt:=ZaX h (by rw [g];exact fun h=>by cases h) (by rw [g];rfl);rw [g] at m;refine ⟨_,h.putRow (hmp:=fun e1 R _=>.cells fun b' l=>by rw [r] at l;cases l;exact ⟨_,_,_,setRow_heap w b arr arr' e _ a⟩) (S:=fun b'=>b'=b) (X d) f (fun b' l=>⟨0,by rw [l];exact r⟩) C rfl (fun i _=>rfl) (.inl fun cs L=>by rw [g] at L;cases L) (fun i q y Q=>?_) ?_ (fun k b' o=>?_) (fun k T b' o D=>(h.dist d k d T b' o D).2) (by rw [g];rfl)⟩
  ·refine ⟨fun e' ys n=>?_,rfl,fun b' _=>Wn a A b'⟩;rw [g] at n ⊢
   cases q with
   | succ q => simp [Zy] at n
   | zero =>
    simp only [Zy,Xf,Xw] at n;obtain ⟨rfl,rfl⟩:=n;exact ⟨xs',rfl,O⟩
  ·rw [g];show Jt c.P _ lim Xc e xs' _ (Zaz X d (X d) d 0);rw [Zx,r];refine s _ ?_;rw [← r];exact m
  ·exact ⟨by have:=(h.ours d k b' o).1;simpa using this,(h.ours d k b' o).2,fun i j y E=>y (h.dist i j d k b' E o).1⟩
 ·have C:d < c.nt:=ZaX h (by rw [g];exact fun h=>by cases h) (by rw [g];rfl);rw [g] at m;obtain ⟨U,t,t0,M,H,g3,g4,g5,g6,g7⟩:=(show ZK c.P w lim (X d) cs _ from m)
  have W:U≠b:=fun e'=>by
   have:=(h.dist d (q+1) d 0 b r (by rw [← e'];exact M)).2;omega
  refine ⟨_,h.putRow (hmp:=fun e1 R he=>by rw [g] at he;simp [ZN] at he) (S:=fun b'=>b'=b) (X d) f (fun b' l=>⟨q+1,by rw [l];exact r⟩) C rfl (fun i _=>rfl) (.inr ⟨⟨_,by rw [g];rfl⟩,rfl,rfl⟩) (fun i Y y Q=>?_) ?_ (fun k b' o=>?_) (fun k T b' o D=>(h.dist d k d T b' o D).2) (by rw [g];rfl)⟩
  ·refine ⟨fun e' ys n=>?_,rfl,fun b' _=>Wn a A b'⟩;rw [g] at n ⊢
   cases Y with
   | zero => simp [Zy] at n
   | succ Y =>
    simp only [ZN,Zy] at n ⊢;by_cases hqq:Y=q
    ·subst hqq;rw [hq] at n;simp only [Xf,Xw] at n;obtain ⟨rfl,rfl⟩:=n;rw [UP (Xx.1 hq).1];exact ⟨xs',rfl,O⟩
    ·rw [UI (fun h=>hqq h.symm)];exact ⟨ys,n,rfl⟩
  ·rw [g];refine ⟨U,t,t0,by rw [Zx];exact M,H,(setRow_other w b U arr' W).trans g3,by rw [TD];exact g4,g5,fun x p=>?_,fun i x u p N=>?_⟩
   ·rcases UR p with p | p
    ·exact g6 x p
    ·exact .inr (.inl ⟨_,_,_,p⟩)
   ·rw [Zx];by_cases y:i=q
    ·subst y;rw [UP (Xx.1 hq).1] at p;simp only [Xf] at p;subst p;show Jt c.P _ lim Xc e xs' u (X d (i+1));rw [r];refine s u ?_;rw [← r];exact g7 i _ u hq N
    ·rw [UI (fun h=>y h.symm)] at p;refine (g7 i x u p N).mono f.ext fun b' l=>f.blk b' (h.ours d (i+1) b' l).1 fun e'=>?_;have:=(h.dist d (i+1) d (q+1) b' l (by rw [e'];exact r)).2;omega
  ·exact ⟨by have:=(h.ours d k b' o).1;simpa using this,(h.ours d k b' o).2,fun i j y E=>y (h.dist i j d k b' E o).1⟩
def Zmk {P:Program} {o:Oper} {σ:Nat→AV} {T e:TypeId} {t p:Operand} {i:TypeInfo} {z:Value} {zc zc':List AV} {k:IntKind} {m:Int} (x:Bool) (L:o.op = .makeSlice T t p) (hT:P.underlying T=Xa (.slice e)) (hi:P.info? e=Xa i)
  (hz:i.zero=Xa z) (M:z.cells.size=i.size) (N:ZaL z.cells.toList=Xa zc) (ht:getS P σ t = .val (.int k m)) (O:getS P σ p = .val (.int k m)) (h0:0≤m) (hm:m.toNat*(i.bytes+1)≤Jr)
  (hw:zc'.length=zc.length∧∀ (w:World) (lim:Nat→Nat) (us:List Value),Ys w lim zc us→Ys w lim zc' us) :
  J3 P o σ (.own x e (Xv m.toNat zc')) [] []:=by
 intro c R s tm w lim X A ac a ab Q hn;have hg:getS P s t=getS P σ t:=ZL fun u g=>A u (by simp [ZA (o:=o) (x:=t) (by rw [L];simp [Op.operands]) g]);have S:getS P s p=getS P σ p:=ZL fun u g=>A u (by simp [ZA (o:=o) (x:=p) (by rw [L];simp [Op.operands]) g]);have hv:Act.eval ⟨tm,[]⟩ t = .int k m:=Jq R a ht hg;have U:Act.eval ⟨tm,[]⟩ p = .int k m:=Jq R a O S;have d:P.cellsOf e=i.size:=ZF hi;have h:=hw.2 w lim _ (Kb (w:=w) (lim:=lim) N);have C:z.cells.toList.length=i.size:=by rw [← M];simp
 have ad:m.toNat≤1099511627776:=by
  have:m.toNat*1≤m.toNat*(i.bytes+1):=Tc _ (by omega);unfold Jr at hm;omega
 have W:(i.bytes:Int)*m≤281474976710656:=by
  have h1:m.toNat*i.bytes≤m.toNat*(i.bytes+1):=Tc _ (by omega);unfold Jr at hm
  have h2:((m.toNat*i.bytes:Nat):Int)=(i.bytes:Int)*m:=by
   rw [Int.natCast_mul,Int.mul_comm];congr 1;omega
  omega
 have ae:(1099511627776:Nat)≤maxLen:=by decide
 have D:=run_make (P:=P) w T e i z hT hi hz k k m m h0 (Int.le_refl _) W (by omega)
 have l:madeCells z.cells (m.toNat*i.size)=((Xv m.toNat z.cells.toList).flatten).toArray:=by
  have:=replicate_zero z.cells.toList m.toNat;rw [C,U4] at this;exact this
 have Y:=YH h m.toNat
 have E:∀ x∈Xv m.toNat zc',x.length=P.cellsOf e:=by
  intro x Z;rw [(UJ.1 Z).2,h.1,C,d]
 have f:=Km w lim (madeCells z.cells (m.toNat*i.size)) e (if x=Xc then 0 else m.toNat*i.size) (fun _=>False)
 have G:∀ x∈Xv m.toNat zc',∀ y∈x,y.isCell=Xc:=fun x Z y q=>by
  rw [(UJ.1 Z).2] at q;exact h.2.1 y q
 have H:∀ (j:Nat) (y:AV) (u:Value),(Xv m.toNat zc').flatten[j]? = Xa y→(madeCells z.cells (m.toNat*i.size))[j]? = Xa u→Rep (w.alloc (.cells (madeCells z.cells (m.toNat*i.size)) e)) (fun b=>if b=w.heap.size then (if x=Xc then 0 else m.toNat*i.size) else lim b) y u:=fun j y u q g=>(Y.2.2 j y u q (by rw [l] at g;simpa using g)).mono f.ext;have n:(madeCells z.cells (m.toNat*i.size)).toList.length=m.toNat*i.size:=by rw [Array.length_toList,size_madeCells]
 have J:Jt P (w.alloc (.cells (madeCells z.cells (m.toNat*i.size)) e)) (fun b=>if b=w.heap.size then (if x=Xc then 0 else m.toNat*i.size) else lim b) x e (Xv m.toNat zc') (.slice (Xa ⟨w.heap.size,0,Xe⟩) (Xv m.toNat zc').length m.toNat) (Xa w.heap.size):=by
  cases x
  ·refine .inl ⟨(madeCells z.cells (m.toNat*i.size)).toList,⟨by rw [n,Td,d],.inr ⟨w.heap.size,m.toNat,_,rfl,X7 _,Y6 w _ e,by simp,by omega,by rw [size_madeCells,d],Uc (by rw [n,Td,d];exact Xt _)⟩⟩,rfl,fun b r=>?_,E,G,fun j y u q g=>H j y u q (by simpa using g)⟩
   cases r
   show (if w.heap.size=w.heap.size then (if Xb=Xc then 0 else m.toNat*i.size) else lim w.heap.size)=_;rw [P4 rfl,n]
  ·exact ZaZ (Y6 w _ e) (P4 rfl) (by simp) (by omega) (by rw [size_madeCells,d]) E G H
 rw [Td] at J;have aa:=a.world f fun _ hs=>hs.elim;refine Zr (v:=.slice (Xa ⟨w.heap.size,0,Xe⟩) m.toNat m.toNat) (w':=w.alloc (.cells (madeCells z.cells (m.toNat*i.size)) e)) ?_ (hn _ _ (Jp aa (by rw [R];exact J) (fun b r=>?_) fun _=>.cells fun b r=>by cases r;exact ⟨_,_,_,Y6 w _ e⟩))
 ·simp only [execOp,L,hv,U,Sem.run_bind,D,Result.andThen_ok,Sem.run_pure]
 ·simp only [Xf] at r;subst r;exact ⟨.inr a.frm.size,fun i j=>KC a i j⟩
def WR {c:Ctx} {σ:Nat→AV} {p:Array Value} {w:World} {lim:Nat→Nat} {X:Nat→Nat→Option Nat} (h:Sim c σ p w lim X) {d q k:Nat} {e:TypeId} {xs:List (List AV)} {v:Value}
  (n:Zy (σ d) q=Xa (e,xs)) (r:Z2 c.P w lim X σ k (.mref d q) v) (i:Zv c.P e=Xb):(xs = []∧(v = .slice Xe 0 0∨∃ a,v = .slice (Xa a) 0 0))∨
   ∃ b arr cap f,X d q=Xa b∧v = .slice (Xa ⟨b,0,Xe⟩) xs.length f∧w.heap[b]? = Xa (.cells arr e (0,0))∧lim b=0∧xs.length≤cap∧cap≤maxLen∧
   arr.size=cap*c.P.cellsOf e∧(∀ x∈xs,x.length=c.P.cellsOf e)∧(∀ x∈xs,∀ c∈x,c.isCell=Xc)∧∀ (j:Nat) (c:AV) (u:Value),xs.flatten[j]? = Xa c→arr[j]? = Xa u→Rep w lim c u:=by
 obtain ⟨e',xs',m,g⟩:=r;rw [n] at m;simp only [Xf,Xw] at m;obtain ⟨rfl,rfl⟩:=m;rcases g with ⟨_,g,h3⟩ | ⟨b,arr,f,g,h3,h4,h5⟩ | ⟨g,_⟩
 ·exact .inl ⟨Uh g,h3⟩
 ·obtain ⟨u,o⟩:=VJ h n;rw [g] at o;obtain ⟨l,cap,t,s,g3⟩:=VF o (.inl i);exact .inr ⟨b,l,cap,f,g,h5,s,g3⟩
 ·rw [i] at g;cases g
def ZcV {P:Program} {o:Oper} {σ:Nat→AV} {T e:TypeId} {x i:Operand} {d q:Nat} {xs:List (List AV)} {k:IntKind} {z:Int} (t:o.op = .indexAddr T x i)
  (v:P.underlying T=Xa (.slice e)) (l:P.cellsOf e≠0) (y:getS P σ x = .mref d q) (A:Zy (σ d) q=Xa (e,xs)) (C:getS P σ i = .val (.int k z)) (D:0≤z) (E:z.toNat < xs.length) (g:Zv P e=Xb) :
  J3 P o σ (.eref d q (z.toNat*P.cellsOf e+0)) [] [d]:=by
 refine ZD [d] rfl fun c j m J w lim X n p a=>?_;rw [t] at n;have u:=YU j a y (n x (by simp [Op.operands]));have r:=Jq j a C (n i (by simp [Op.operands]));have h:Zy (m d) q=Xa (e,xs):=by rw [p d (by simp),A]
 rw [← j] at u;rcases WR a h u (by rw [j];exact g) with ⟨rfl,_⟩ | ⟨b,arr,cap,cap',g1,g2,g3⟩
 ·simp at E
 ·obtain ⟨s,f⟩:=ZJ l;have G:P.cellsOf e=s.size:=ZF f;refine ⟨.pointer (Xa ⟨b,z.toNat*P.cellsOf e+0,Xe⟩),?_,b,e,xs,h,g1,.inl ⟨g,rfl⟩⟩;have H:0≤z∧z < (xs.length:Int):=⟨D,by omega⟩;simp [execOp,t,g2,r,Instr.indexAt,asIntOf,run_underlying v,H,Zt f,J1]
def J5 {s:Nat} : ∀ (xs:List (List AV)) (k:Nat),(∀ x∈xs,x.length=s)→(xs.take k).flatten=xs.flatten.take (k*s)
 | [], k, _ => by simp
 | x :: xs, 0, _ => by simp
 | x :: xs, k + 1, h => by
  have c:x.length=s:=h x (by simp);simp only [List.take_succ_cons,Un];rw [J5 xs k fun y a=>h y (by simp [a]),List.take_append];have b:(k+1)*s-x.length=k*s:=by rw [UY];omega
  rw [b,Uc (l:=x) (by rw [UY];omega)]
def Wh {s:Nat} : ∀ (xs:List (List AV)) (k:Nat),(∀ x∈xs,x.length=s)→(xs.drop k).flatten=xs.flatten.drop (k*s)
 | [], k, _ => by simp
 | x :: xs, 0, _ => by simp
 | x :: xs, k + 1, h => by
  have c:x.length=s:=h x (by simp);simp only [List.drop_succ_cons,Un];rw [Wh xs k fun y a=>h y (by simp [a]),List.drop_append];have b:(k+1)*s-x.length=k*s:=by rw [UY];omega
  rw [b,U2 (l:=x) (by rw [UY];omega)];rfl
def ZbP {s:Nat} {xs:List (List AV)} {i o:Nat} {e:List AV} (h:∀ x∈xs,x.length=s) (b:i < xs.length) (k:o+e.length≤s) :
  (Zw xs i o e).flatten=xs.flatten.take (i*s+o)++e++xs.flatten.drop (i*s+o+e.length):=by
 have m:xs[i].length=s:=h _ (XC b);have d:xs=xs.take i++xs[i]::xs.drop (i+1):=by rw [List.getElem_cons_drop,List.take_append_drop]
 have a:(xs.take i).flatten.length=i*s:=by
  rw [J5 xs i h,Xu,Zs xs _ h];have:i*s≤xs.length*s:=XP _ (by omega);omega
 have f:Zw xs i o e=xs.take i++setCells xs[i] o e::xs.drop (i+1):=by
  unfold Zw;rw [List.modify_eq_take_cons_drop b]
 have c:=congrArg List.flatten d;rw [U0,Un] at c;rw [f,c];simp only [U0,Un];rw [List.take_append,List.drop_append,a,Uc (l:=(xs.take i).flatten) (by rw [a];omega),U2 (l:=(xs.take i).flatten) (by rw [a];omega)];have g:i*s+o-i*s=o:=by omega
 have j:i*s+o+e.length-i*s=o+e.length:=by omega
 rw [g,j,List.take_append_of_le_length (by omega),List.drop_append_of_le_length (by omega)];unfold setCells;simp only [X9,XB]
def ZhQ {s:Nat} {xs:List (List AV)} {i o:Nat} {e:List AV} (h:∀ x∈xs,x.length=s) (f:∀ x∈xs,∀ c∈x,c.isCell=Xc) (m:o+e.length≤s) (g:∀ c∈e,c.isCell=Xc) :
  ∀ x∈Zw xs i o e,x.length=s∧∀ c∈x,c.isCell=Xc:=by
 intro x k;obtain ⟨j,b⟩:=X6.1 k;unfold Zw at b;rw [List.getElem?_modify] at b
 cases hy:xs[j]? with
 | none => rw [hy] at b; cases b
 | some y =>
  rw [hy] at b;simp only [Option.map_eq_map,XA,Xf] at b;subst b;split
  ·have d:=Xo hy;have l:=h y d;refine ⟨by simp [setCells,l];omega,fun c a=>?_⟩;unfold setCells at a;rcases Xq.1 a with a | a
   ·rcases Xq.1 a with a | a
    ·exact f y d c (XL a)
    ·exact g c a
   ·exact f y d c (XR a)
  ·have d:=Xo hy;exact ⟨h y d,f y d⟩
def Zi1 {R:AV→Value→Prop} {zs vs:List AV} {us c:List Value} {off:Nat} (h:∀ (j:Nat) (z:AV) (u:Value),zs[j]? = Xa z→us[j]? = Xa u→R z u) (d:∀ (j:Nat) (z:AV) (u:Value),vs[j]? = Xa z→c[j]? = Xa u→R z u)
  (e:vs.length=c.length) (i:off≤zs.length) (k:off≤us.length) :
  ∀ (j:Nat) (z:AV) (u:Value),(zs.take off++vs++zs.drop (off+vs.length))[j]? = Xa z→(us.take off++c++us.drop (off+c.length))[j]? = Xa u→R z u:=by
 intro j z u b a;have f:(zs.take off).length=off:=by rw [Xu];omega
 have g:(us.take off).length=off:=by rw [Xu];omega
 rw [XB] at b a;rcases XS j off with hlt | hge
 ·rw [XH (by omega),List.getElem?_take_of_lt hlt] at b a;exact h j z u b a
 ·rw [XG (by omega),f] at b;rw [XG (by omega),g] at a;rcases XS (j-off) vs.length with hlt | hge'
  ·rw [XH hlt] at b;rw [XH (by omega)] at a;exact d _ z u b a
  ·rw [XG hge',X4] at b;rw [XG (by omega),X4] at a;rw [← e] at a;exact h _ z u b a
def ZeR {c:Ctx} {σ:Nat→AV} {n:Array Value} {w:World} {lim:Nat→Nat} {X:Nat→Nat→Option Nat} (h:Sim c σ n w lim X) {d q k p:Nat} {e:TypeId} {xs:List (List AV)} {v:Value}
  (i:Zy (σ d) q=Xa (e,xs)) (o:Z2 c.P w lim X σ k (.eref d q p) v) (a:Zv c.P e=Xb) :
   ∃ b arr cap,X d q=Xa b∧v = .pointer (Xa ⟨b,p,Xe⟩)∧w.heap[b]? = Xa (.cells arr e (0,0))∧lim b=0∧xs.length≤cap∧cap≤maxLen∧
   arr.size=cap*c.P.cellsOf e∧(∀ x∈xs,x.length=c.P.cellsOf e)∧(∀ x∈xs,∀ c∈x,c.isCell=Xc)∧∀ (j:Nat) (c:AV) (u:Value),xs.flatten[j]? = Xa c→arr[j]? = Xa u→Rep w lim c u:=by
 obtain ⟨b,e',xs',g,l,r⟩:=o;rw [i] at g;simp only [Xf,Xw] at g;obtain ⟨rfl,rfl⟩:=g;obtain ⟨u,m⟩:=VJ h i;rw [l] at m;obtain ⟨f,cap,t,s,g3⟩:=VF m (.inl a);exact ⟨b,f,cap,l,r.ptr a,s,g3⟩
def Zjz {w:World} {lim:Nat→Nat} {xs:List (List AV)} {s i off n:Nat} {a:List AV} {arr:Array Value} {cap:Nat} (g:∀ x∈xs,x.length=s) (k:∀ x∈xs,∀ c∈x,c.isCell=Xc)
  (l:∀ (j:Nat) (c:AV) (u:Value),xs.flatten[j]? = Xa c→arr[j]? = Xa u→Rep w lim c u) (m:arr.size=cap*s) (p:xs.length≤cap) (b:xs[i]? = Xa a) (h:off+n≤s) :
  ((arr.toList.drop (i*s+off)).take n).length=n∧((a.drop off).take n).length=n∧(∀ c∈(a.drop off).take n,c.isCell=Xc)∧
   ∀ (j:Nat) (c:AV) (u:Value),((a.drop off).take n)[j]? = Xa c→((arr.toList.drop (i*s+off)).take n)[j]? = Xa u→Rep w lim c u:=by
 have q:=(Xx.1 b).1;have e:=g a (Xo b)
 have r:i*s+s≤cap*s:=by
  rw [← UY];exact XP _ (by omega)
 refine ⟨by simp [m];omega,by simp [e];omega,fun c d=>k a (Xo b) c (XR (XL d)),fun j c u d f=>?_⟩;rw [XI] at d f;split at d
 ·rename_i o;rw [P4 o,X4] at f;rw [X4] at d;refine l (i*s+(off+j)) c u ?_ ?_
  ·rw [Vg xs s g i a b (off+j) (by omega)];exact d
  ·rw [← Uy];simpa using f
 ·cases d
def WQ {P:Program} {o:Oper} {σ:Nat→AV} {T e:TypeId} {a:Operand} {d q i off:Nat} {xs:List (List AV)} {g:List AV} (t:o.op = .load T a) (A:JU P T=Xa Xc)
  (C:getS P σ a = .eref d q (i*P.cellsOf e+off)) (D:Zy (σ d) q=Xa (e,xs)) (h:xs[i]? = Xa g) (E:off+P.cellsOf T≤P.cellsOf e) (m:Zv P e=Xb):J3 P o σ (.agg ((g.drop off).take (P.cellsOf T))) [] [d]:=by
 refine ZD [d] rfl fun c k p L w lim X v r f=>?_;rw [t] at v;have x:=YU k f C (v a (by simp [Op.operands]));have s:Zy (p d) q=Xa (e,xs):=by rw [r d (by simp),D]
 rw [← k] at x;obtain ⟨b,arr,cap,M,y,g3,g4,g5,g6,g7,g8,g9,g10⟩:=ZeR f s x (by rw [k];exact m);rw [k] at y g7 g8;obtain ⟨z,G,H,J⟩:=Zjz (off:=off) (n:=P.cellsOf T) g8 g9 g10 g7 g5 h E;refine ⟨.agg ((arr.toList.drop (i*P.cellsOf e+off)).take (P.cellsOf T)).toArray,?_,?_⟩
 ·have:=WG (w:=w) (b:=b) (off:=i*P.cellsOf e+off) A z (fun j u l=>by
   rw [Je g3];rw [XI] at l;split at l
   ·simpa using l
   ·cases l)
  simp [execOp,t,y,this]
 ·exact .agg (by rw [z,G]) H J
def WM {P:Program} {o:Oper} {σ:Nat→AV} {T e:TypeId} {a:Operand} {d q i off:Nat} {xs:List (List AV)} {g:List AV} {x:AV} (C:o.op = .load T a) (M:JU P T=Xa Xb)
  (N:getS P σ a = .eref d q (i*P.cellsOf e+off)) (O:Zy (σ d) q=Xa (e,xs)) (l:xs[i]? = Xa g) (R:off+1≤P.cellsOf e) (S:g[off]? = Xa x) (p:Zv P e=Xb):J3 P o σ x [] [d]:=by
 intro c m h tm w lim X r s f D Q y;have U:getS P h a=getS P σ a:=ZL fun t W=>r t (by simp [ZA (o:=o) (x:=a) (by rw [C];simp [Op.operands]) W]);have E:=YU m f N U;have z:Zy (h d) q=Xa (e,xs):=by rw [s d (by simp),O]
 rw [← m] at E;obtain ⟨b,arr,cap,g1,G,g3,g4,g5,g6,g7,g8,g9,g10⟩:=ZeR f z E (by rw [m];exact p);rw [m] at G g7 g8;obtain ⟨Y,k2,H,A⟩:=Zjz (off:=off) (n:=1) g8 g9 g10 g7 g5 l R;have Z:(g.drop off).take 1 = [x]:=by rw [List.take_one,List.head?_drop,S];rfl
 obtain ⟨u,J⟩:∃ u,(arr.toList.drop (i*P.cellsOf e+off)).take 1 = [u]:=List.length_eq_one_iff.1 Y;rw [Z] at H A;rw [J] at A
 have j:w.cell? ⟨b,i*P.cellsOf e+off,Xe⟩=Xa u:=by
  rw [Je g3];have L:((arr.toList.drop (i*P.cellsOf e+off)).take 1)[0]? = Xa u:=by rw [J];rfl
  rw [XI,P4 (by omega),X4] at L;simpa using L
 obtain ⟨p1,p2⟩:=VV (P:=P) (X:=X) (σ:=h) (k:=0) (H x (by simp)) (A 0 x u rfl rfl);refine Zr (v:=u) ?_ (y u w (ZH f p1 (k:=0) (by rw [m];exact p2)));simp [execOp,C,G,Ye M j]
def ZbS {P:Program} {o:Oper} {σ:Nat→AV} {T e:TypeId} {a x:Operand} {d q i off:Nat} {xs:List (List AV)} {vc vc':List AV} {y:AV} (O:o.op = .store T a x) (ha:getS P σ a = .eref d q (i*P.cellsOf e+off)) (hd:Zy (σ d) q=Xa (e,xs)) (S:(σ d).isG=Xb)
  (A:getS P σ x=y) (hy:y.cells? = Xa vc) (U:vc.length=P.cellsOf T) (h0:P.cellsOf T≠0) (hi:i < xs.length) (h:off+P.cellsOf T≤P.cellsOf e)
  (M:vc'.length=vc.length∧∀ (w:World) (lim:Nat→Nat) (us:List Value),Ys w lim vc us→Ys w lim vc' us) (W:Zv P e=Xb) :
  J3 P o σ .dead [(d,ZN (σ d) q Xc e (Zw xs i off vc'))] [d]:=by
 intro c r g tm w lim X C Y f ad Q Z;have aa:getS P g a=getS P σ a:=ZL fun t ht=>C t (by simp [ZA (o:=o) (x:=a) (by rw [O];simp [Op.operands]) ht]);have ab:getS P g x=getS P σ x:=ZL fun t ht=>C t (by simp [ZA (o:=o) (x:=x) (by rw [O];simp [Op.operands]) ht]);have p:g d=σ d:=Y d (by simp);have D:Zy (g d) q=Xa (e,xs):=by rw [p,hd]
 have E:=YU r f ha aa;rw [← r] at E;obtain ⟨us,h4,s⟩:=W3 hy (YU r f A ab);obtain ⟨b,arr,cap,g1,h3,g3,g4,g6,g7,g8,g9,g10,g11⟩:=ZeR f D E (by rw [r];exact W);rw [r] at g8 g9 h3;obtain ⟨ag,G⟩:=ZJ h0;have H:=M.2 w lim us s;have l:us.length=P.cellsOf T:=by rw [← s.1,U]
 have ae:i*P.cellsOf e+P.cellsOf e≤xs.length*P.cellsOf e:=by
  rw [← UY];exact XP _ hi
 have af:xs.length*P.cellsOf e≤cap*P.cellsOf e:=XP _ g6;have m:=ZhQ (i:=i) g9 g10 (by rw [M.1,U];exact h) H.2.1
 have ac:=K6 (P:=P) (T:=T) (w:=w) (b:=b) (off:=i*P.cellsOf e+off) (v:=Act.eval ⟨tm,[]⟩ x) G h4 l g3 (by rw [l,g8];omega) (fun u J=>by
  obtain ⟨j,hj⟩:=X6.1 J;have L:j < vc.length:=by rw [s.1];exact (Xx.1 hj).1
  exact (s.2.2 j _ u (Xm L) hj).oneCell (s.2.1 _ (XC L)))
 obtain ⟨X',n⟩:=f.setPlace (xs':=Zw xs i off vc') (arr':=(arr.toList.take (i*P.cellsOf e+off)++us++arr.toList.drop (i*P.cellsOf e+off+us.length)).toArray) D (by rw [p];exact S) g1 g3
  (by simp [g8];omega) (by simp [Zw]) (fun x A=>by rw [r];exact (m x A).1) (fun x A=>(m x A).2) (fun j z u N J=>by
   rw [ZbP g9 (by omega) (by rw [M.1,U];exact h)] at N;refine Zi1 (R:=Rep w lim) (us:=arr.toList) (fun j z u N J=>g11 j z u N (by simpa using J)) H.2.2 (by rw [M.1,s.1]) ?_ ?_ j z u N (by simpa using J)
   ·rw [Zs xs _ g9];omega
   ·simp [g8];omega)
 rw [p] at n;refine Ka (w':=w.setRow b (arr.toList.take (i*P.cellsOf e+off)++us++arr.toList.drop (i*P.cellsOf e+off+us.length)).toArray) ?_ (Z undef _ ?_)
 ·simp only [execOp,O,h3,Sem.run_bind,ac,Result.andThen_ok,Sem.run_pure]
 ·exact ZH n rfl (k:=0) trivial
def Ze4 {P:Program} {o:Oper} {σ:Nat→AV} {cl:Call} {x:Operand} {T A e:TypeId} {d q:Nat} {xs:List (List AV)} (v:o.op = .call cl) (k:cl.callee = .builtin .len)
  (i:cl.args.toList = [x]) (m:cl.argTypes.toList = [T]) (C:P.underlying T=Xa (.slice A)) (D:getS P σ x = .mref d q) (E:Zy (σ d) q=Xa (e,xs)) (n:Zv P e=Xb):J3 P o σ (.val (.int .i64 xs.length)) [] [d]:=by
 have f:cl.args = #[x]:=by apply XZ.1;rw [i]
 have l:cl.argTypes = #[T]:=by apply XZ.1;rw [m]
 refine ZD [d] rfl fun c p r G w lim X y s g=>⟨.int .i64 xs.length,?_,.val rfl⟩;rw [v] at y;have z:=YU p g D (y x (by simp [Op.operands,Call.operands,f,k]));have t:Zy (r d) q=Xa (e,xs):=by rw [s d (by simp),E]
 rw [← p] at z
 have j:∃ a cap,Act.eval ⟨G,[]⟩ x = .slice a xs.length cap:=by
  rcases WR g t z (by rw [p];exact n) with ⟨rfl,h | ⟨a,h⟩⟩ | ⟨b,arr,cap,cap',g1,u,g3⟩
  ·exact ⟨_,_,h⟩
  ·exact ⟨_,_,h⟩
  ·exact ⟨_,_,u⟩
 obtain ⟨a,cap,u⟩:=j;simp [execOp,v,k,resolve,f,l,invoke,builtin,Builtin.len_,u,run_underlying C,goInt]
def Zi4 {P:Program} {w:World} {lim:Nat→Nat} {f:Bool} {i:List (List AV)} {v:Value} (n:Nat) (h:Rep w lim (.slice f 1 i) v) :
  (v = .slice Xe 0 0∧i = [])∨∃ (a:Addr) (d e:Nat) (cs:List Value),v = .slice (Xa a) d e∧cs.length=Nat.min d n∧d=i.length∧(∀ y∈i,y.length=1∧∀ c∈y,c.isCell=Xc)∧(∀ j u,cs[j]? = Xa u→w.cell? (a.add j)=Xa u)∧
   (∀ u∈cs,u.oneCell'=Xc)∧∀ (j:Nat) (z:AV) (u:Value),(i.take n).flatten[j]? = Xa z→cs[j]? = Xa u→Rep w lim z u:=by
 have s:∀ (y:AV),Rep w lim y v→y = .slice f 1 i→(v = .slice Xe 0 0∧i = [])∨∃ (a:Addr) (d e:Nat) (cs:List Value),v = .slice (Xa a) d e∧cs.length=Nat.min d n∧d=i.length∧(∀ y∈i,y.length=1∧∀ c∈y,c.isCell=Xc)∧(∀ j u,cs[j]? = Xa u→w.cell? (a.add j)=Xa u)∧
   (∀ u∈cs,u.oneCell'=Xc)∧∀ (j:Nat) (z:AV) (u:Value),(i.take n).flatten[j]? = Xa z→cs[j]? = Xa u→Rep w lim z u:=by
  intro y r g
  cases r with
  | sliceN => injection g with h1 h2 h3; exact .inl ⟨rfl, h3.symm⟩
  | @sliceE f' s2 a cap hf =>
   injection g with h1 h2 h3;subst h3;exact .inr ⟨a,0,cap,[],rfl,by simp,rfl,by simp,by simp,by simp,by simp⟩
  | @sliceC f' s2 xs b o cap us hs hc hf hle hlim hus hcell hr =>
   injection g with h1 h2 h3;subst h2;subst h3;have t:xs.flatten.length=us.length:=by rw [Zs xs _ hs,hus]
   refine .inr ⟨⟨b,o,Xe⟩,xs.length,cap,us.take n,rfl,?_,rfl,fun y r=>⟨hs y r,hc y r⟩,fun j u k=>?_,fun u p=>?_,fun j z u m p=>?_⟩
   ·rw [Xu,hus,Nat.mul_one];exact Nat.min_comm _ _
   ·rw [XI] at k;split at k
    ·rw [J1];exact hcell j u k
    ·cases k
   ·obtain ⟨j,k⟩:=X6.1 (XL p);have q:j < xs.flatten.length:=by rw [t];exact (Xx.1 k).1
    have m:xs.flatten[j]? = Xa xs.flatten[j]:=Xm q;obtain ⟨l,C,x⟩:=Tn.1 (XC q);exact (hr j _ u m k).oneCell (hc l C _ x)
   ·rw [J5 xs n hs,Nat.mul_one,XI] at m;rw [XI] at p;split at m
    ·rename_i A;rw [P4 A] at p;exact hr j z u m p
    ·cases m
  | val _ => cases g
  | agg _ _ _ => cases g
 exact s _ h rfl
def ZeZ {P:Program} {w:World} {T T' ty e:TypeId} {v u:Value} {d:TypeInfo} (f:P.underlying T=Xa (.slice e)) (g:P.info? e=Xa d) (h:v = .slice Xe 0 0∨∃ a,v = .slice (Xa a) 0 0)
  (i:∃ b n c,u = .slice b n c):(Builtin.copy_ #[T,T'] ty #[v,u]).run P w = .ok (goInt 0) w:=by
 obtain ⟨b,n,c,rfl⟩:=i;have k:∀ a,(loadCells a 0).run P w = .ok #[] w:=fun a=>run_loadCells_list (P:=P) w a [] (fun j v l=>by simp at l);have m:Nat.min n 0=0:=Nat.min_zero n;rcases h with rfl | ⟨a,rfl⟩ <;> cases b<;>simp [Builtin.copy_,run_underlying f,Zt g,Builtin.lenOf,Builtin.firstCells,m,k,storeCells]
def Zc9 {P:Program} {o:Oper} {σ:Nat→AV} {cl:Call} {T T' e:TypeId} {x y:Operand} {d q:Nat} {xs r:List (List AV)} {f:Bool} (M:o.op = .call cl) (s:cl.callee = .builtin .copy)
  (H:cl.args.toList = [x,y]) (aa:cl.argTypes.toList = [T,T']) (hT:P.underlying T=Xa (.slice e)) (hs:P.cellsOf e=1) (n:getS P σ x = .mref d q) (hd:Zy (σ d) q=Xa (e,xs)) (J:(σ d).isG=Xb) (hy:getS P σ y = .slice f 1 r) (ab:Zv P e=Xb) :
  J3 P o σ .dead [(d,ZN (σ d) q Xc e (ZpM xs r))] [d]:=by
 have g:cl.args = #[x,y]:=by apply XZ.1;rw [H]
 have A:cl.argTypes = #[T,T']:=by apply XZ.1;rw [aa]
 intro c hc p tm w lim X N ac l ah Q hn;subst hc;have ad:getS c.P p x=getS c.P σ x:=ZL fun t ht=>N t (by simp [ZA (o:=o) (x:=x) (by rw [M];simp [Op.operands,Call.operands,g,s]) ht]);have ae:getS c.P p y=getS c.P σ y:=ZL fun t ht=>N t (by simp [ZA (o:=o) (x:=y) (by rw [M];simp [Op.operands,Call.operands,g,s]) ht]);have E:p d=σ d:=ac d (by simp);have O:Zy (p d) q=Xa (e,xs):=by rw [E,hd]
 have S:Rep w lim (.slice f 1 r) (Act.eval ⟨tm,[]⟩ y):=YU rfl l hy ae;obtain ⟨af,C⟩:=ZJ (P:=c.P) (T:=e) (by omega);have ag:c.P.cellsOf e=af.size:=ZF C;have U:(c.P.info? e).map (·.size)=Xa 1:=by rw [C,XA,← ag,hs]
 have D:∀ xs',xs'=xs→JV p [(d,ZN (σ d) q Xc e xs')]=p:=by
  rintro xs' rfl;funext k;simp only [JV,upd];split
  ·rename_i hk;subst hk;rw [E];rcases ZI hd with ⟨h1,rfl⟩ | ⟨cs,q,h1,rfl,h2⟩ | ⟨cs,q,h1,rfl,h2⟩
   case inr.inr=>rw [h1] at J;cases J
   ·rw [h1];rfl
   ·rw [h1];simp only [ZN,AV.box.injEq];apply UO;intro i;by_cases hi:i=q
    ·subst hi;rw [UP (Xx.1 h2).1,h2]
    ·rw [UI (fun h=>hi h.symm)]
  ·rfl
 rcases WR l O (YU rfl l n ad) ab with ⟨rfl,hv0⟩ | ⟨b,arr,cap,cap',g1,g2,g3,g4,g6,g7,g8,g9,g10,g11⟩
 ·have m:=ZeZ (P:=c.P) (w:=w) (T:=T) (T':=T') (ty:=o.type) (u:=Act.eval ⟨tm,[]⟩ y) hT C hv0 (by
   rcases Zi4 (P:=c.P) 0 S with ⟨h,_⟩ | ⟨a,sLen,sCap,cs,h,_⟩
   ·exact ⟨_,_,_,h⟩
   ·exact ⟨_,_,_,h⟩)
  refine Zr (v:=goInt 0) (w':=w) ?_ (hn _ w ?_)
  ·simp only [execOp,M,resolve,s,g,A,UQ,Xn,X5,Sem.run_bind,Sem.run_pure,Result.andThen_ok,invoke,builtin,m]
  ·rw [D _ (by simp [ZpM])];exact ZH l rfl (k:=0) trivial
 have W:∀ x∈xs,x.length=1:=fun x n=>by rw [g9 x n,hs]
 rw [hs,Nat.mul_one] at g8;rcases Zi4 (P:=c.P) xs.length S with ⟨hv,hnil⟩ | ⟨a,sLen,sCap,cs,hv,h1,h2,h3,h4,h5,h6⟩
 ·subst hnil;have m:=run_copy_nil c.P w T T' o.type e ⟨b,0,Xe⟩ xs.length cap' hT (by rw [U];rfl);refine Zr (v:=goInt 0) (w':=w) ?_ (hn _ w ?_)
  ·simp only [execOp,M,resolve,s,g,A,UQ,Xn,X5,Sem.run_bind,Sem.run_pure,Result.andThen_ok,invoke,builtin,g2,hv,m]
  ·rw [D _ (by simp [ZpM])];exact ZH l rfl (k:=0) trivial
 ·have L:cs.length=min sLen xs.length:=h1;have m:=run_copy_row c.P w T T' o.type e b 0 xs.length cap' a sLen sCap arr e cs hT U g3 h1 h4 (by rw [L,g8];omega) h5;rw [XW] at m;have ai:cs.length≤xs.length:=by rw [h1];exact Nat.min_le_right _ _
  have e1:ZpM xs r=r.take xs.length++xs.drop cs.length:=by
   unfold ZpM;rw [L];congr 1;by_cases hle:r.length≤xs.length
   ·rw [h2,Nat.min_eq_left hle]
   ·rw [h2,Nat.min_eq_right (by omega),U2 (by omega),U2 (by omega)]
  have Y:(r.take xs.length).length=cs.length:=by rw [Xu,L,h2];exact Nat.min_comm _ _
  have hm:∀ x∈ZpM xs r,x.length=1∧∀ c∈x,c.isCell=Xc:=by
   rw [e1];intro x n;rcases Xq.1 n with n | n
   ·exact h3 x (XL n)
   ·exact ⟨W x (XR n),g10 x (XR n)⟩
  have Z:(r.take xs.length).flatten.length=cs.length:=by rw [Zs (r.take xs.length) 1 fun y hy=>(h3 y (XL hy)).1,Y,Nat.mul_one]
  obtain ⟨X',G⟩:=l.setPlace (xs':=ZpM xs r) (arr':=(arr.toList.take 0++cs++arr.toList.drop cs.length).toArray) O (by rw [E];exact J) g1 g3 (by simp;omega) (by rw [e1,XD,Y,XV];omega)
   (fun x n=>by rw [hs];exact (hm x n).1) (fun x n=>(hm x n).2) (fun j z u hz hu=>by
    rw [e1,U0,Wh xs cs.length W,Nat.mul_one] at hz;refine Zi1 (R:=Rep w lim) (off:=0) (zs:=xs.flatten) (us:=arr.toList) (fun j z u hz hu=>g11 j z u hz (by simpa using hu)) h6 Z (X7 _) (X7 _) j z u ?_ ?_
    ·rw [XW,Z];simpa using hz
    ·rw [XW];simpa using hu)
  rw [E] at G;refine Zr (v:=goInt cs.length) (w':=w.setRow b (arr.toList.take 0++cs++arr.toList.drop cs.length).toArray) ?_ (hn _ _ (ZH G rfl (k:=0) trivial));simp only [execOp,M,resolve,s,g,A,UQ,Xn,X5,Sem.run_bind,Sem.run_pure,Result.andThen_ok,invoke,builtin,g2,hv,m]
def ZhL {T':Odr} {P:Program} {o:Oper} {σ:Nat→AV} {T e:TypeId} {x y:Operand} {d:Nat} {xs:List (List AV)} {k:IntKind} {h:Nat} {us:List (Nat×AV)} (s:o.op = .slice T x Xe (Xa y) Xe) (M:P.underlying T=Xa (.slice e)) (N:P.cellsOf e≠0)
  (A:getS P σ x = .mref d 0) (hd:σ d = .own Xc e xs) (hy:getS P σ y = .val (.int k h)) (hh:h≤xs.length) (O:Yv T' σ d us) (m:Zv P e=Xb) :
  Vr T' P o σ (.own Xc e (xs.take h)) ((d,Zao P Xc e xs)::us) [d]:=by
 intro c l n tm w lim X C R S g ag Q U;have W:getS P n x=getS P σ x:=ZL fun t Y=>C t (by simp [ZA (o:=o) (x:=x) (by rw [s];simp [Op.operands]) Y]);have Z:getS P n y=getS P σ y:=ZL fun t Y=>C t (by simp [ZA (o:=o) (x:=y) (by rw [s];simp [Op.operands]) Y]);have D:n d = .own Xc e xs:=by rw [R d (by simp),hd]
 have H:=YU l g A W;have p:=Jq l g hy Z;rw [← l] at H;obtain ⟨X1,J,k2,k3⟩:=g.freeAll (us:=us) D (.inr (O.all S));rw [l] at J;obtain ⟨aa,i⟩:=ZJ N;have q:Zy (n d) 0=Xa (e,xs):=by rw [D];rfl
 rcases WR g q H (by rw [l];exact m) with ⟨rfl,hform⟩ | ⟨b,arr,cap,cap',g1,g2,g3,g4,g5,g6,g7,g8,g9,g10⟩
 ·have ab:h=0:=by simpa using hh
  subst ab;rcases hform with hf | ⟨a,hf⟩
  ·refine Zr (v:=.slice Xe 0 0) (w':=w) ?_ (U _ w (Jp (ob:=Xe) J (.inl ⟨[],World.ownsRow_nil _ 0 e _,rfl,by simp,by simp,by simp,by simp⟩) (by simp) fun _=>.none rfl));simp [execOp,s,hf,p,Instr.sliceAt,Instr.slice,Instr.sliceBounds,Instr.sliceBound,asIntOf,run_underlying M,Zt i]
  ·refine Zr (v:=.slice (Xa a) 0 0) (w':=w) ?_ (U _ w (Jp (ob:=Xe) J (.inr (.inl ⟨rfl,rfl,a,rfl⟩)) (by simp) fun _=>.none rfl));simp [execOp,s,hf,p,Instr.sliceAt,Instr.slice,Instr.sliceBounds,Instr.sliceBound,asIntOf,run_underlying M,Zt i]
 ·have ah:P.cellsOf e=aa.size:=ZF i
  have ai:xs.length≤cap':=by
   obtain ⟨e2,ac,r,f⟩:=H;rw [q] at r;simp only [Xf,Xw] at r;obtain ⟨rfl,rfl⟩:=r;rcases f with ⟨f,_⟩ | ⟨b',arr',cap2,f,m3,m4,m5⟩ | ⟨f,_⟩
   rotate_right
   ·rw [l,m] at f;cases f
   ·rw [g1] at f;cases f
   ·rw [g1] at f;have hb:b=b':=Uo f;subst hb;rw [g3] at m3;simp only [Xf,Obj.cells.injEq,and_true] at m3;subst m3;rw [g2] at m5;simp only [Value.slice.injEq] at m5;have E:cap2=cap:=TT (by rw [l];omega) (m4.symm.trans g7);omega
  have ad:cap'=cap:=by
   obtain ⟨e2,ac,r,f⟩:=H;rw [q] at r;simp only [Xf,Xw] at r;obtain ⟨rfl,rfl⟩:=r;rcases f with ⟨f,_⟩ | ⟨b',arr',cap2,f,m3,m4,m5⟩ | ⟨f,_⟩
   rotate_right
   ·rw [l,m] at f;cases f
   ·rw [g1] at f;cases f
   ·rw [g1] at f;have hb:b=b':=Uo f;subst hb;rw [g3] at m3;simp only [Xf,Obj.cells.injEq,and_true] at m3;subst m3;rw [g2] at m5;simp only [Value.slice.injEq] at m5;have E:cap2=cap:=TT (by rw [l];omega) (m4.symm.trans g7);omega
  subst ad;have ae:(xs.take h).length=h:=by rw [Xu];omega
  have G:Jt c.P w lim Xc e (xs.take h) (.slice (Xa ⟨b,0,Xe⟩) (xs.take h).length cap') (Xa b):=
   ZaZ g3 g4 (by omega) g6 g7 (fun x A=>g8 x (XL A)) (fun x A=>g9 x (XL A)) fun j z u L hu=>g10 j z u (by
    rw [J5 xs h g8,XI] at L;split at L
    ·exact L
    ·cases L) hu
  rw [ae] at G;refine Zr (v:=.slice (Xa ⟨b,0,Xe⟩) h cap') (w':=w) ?_ (U _ w (Jp J G (fun b' af=>?_) fun _=>.noMap (by rw [l];exact m)))
  ·have b1:h≤cap':=by omega
   simp [execOp,s,g2,p,Instr.sliceAt,Instr.slice,Instr.sliceBounds,Instr.sliceBound,asIntOf,run_underlying M,Zt i,b1,J1]
  ·exact k3 b' (g1.trans af)
def Znj {c:Ctx} {σ:Nat→AV} {m:Array Value} {w:World} {lim:Nat→Nat} {X:Nat→Nat→Option Nat} (h:Sim c σ m w lim X) {d q k:Nat} {e:TypeId} {xs:List (List AV)} {v:Value}
  (n:Zy (σ d) q=Xa (e,xs)) (o:Z2 c.P w lim X σ k (.mref d q) v) (i:Zv c.P e=Xb):RdS w lim (c.P.cellsOf e) xs v:=by
 rcases WR h n o i with ⟨h1,h2 | ⟨a,h2⟩⟩ | ⟨b,arr,cap,cap',g1,g2,g3,g4,g5,g6,g7,g8,g9,g10⟩
 ·exact .inl ⟨h1,_,_,h2⟩
 ·exact .inl ⟨h1,_,_,h2⟩
 ·have l:arr.toList.length=cap*c.P.cellsOf e:=by simpa using g7
  have p:xs.length*c.P.cellsOf e≤arr.toList.length:=by rw [l];exact XP _ g5
  refine .inr ⟨b,0,cap',arr.toList.take (xs.length*c.P.cellsOf e),g2,g8,g9,by rw [Xu];omega,fun j u f=>?_,fun j z u r g=>?_⟩
  ·rw [XI] at f;split at f
   ·rw [XW,Je g3];simpa using f
   ·cases f
  ·rw [XI] at g;split at g
   ·exact g10 j z u r (by simpa using g)
   ·cases g
def ZcY {P:Program} {o:Oper} {σ:Nat→AV} {T e:TypeId} {x y z:Operand} {d q s:Nat} {k C:IntKind} (l:o.op = .slice T x Xe (Xa y) (Xa z))
  (p:P.underlying T=Xa (.slice e)) (r:P.cellsOf e≠0) (D:getS P σ x = .mref d q) (E:getS P σ y = .val (.int k 0)) (G:getS P σ z = .val (.int C 0)) {e':TypeId} {xs':List (List AV)} (H:Zy (σ d) q=Xa (e',xs')) (t:Zv P e'=Xb):J3 P o σ (.slice Xc s []) [] [d]:=by
 refine ZD [d] rfl fun c v J L w lim X m A f=>?_;rw [l] at m;have n:=YU v f D (m x (by simp [Op.operands]));have h:=Jq v f E (m y (by simp [Op.operands]));have i:=Jq v f G (m z (by simp [Op.operands]));obtain ⟨M,g⟩:=ZJ r;generalize hu:Act.eval ⟨L,[]⟩ x=u at n;obtain ⟨N,xs,j,n⟩:=n;rw [A d (by simp),H] at j;simp only [Xf,Xw] at j;obtain ⟨rfl,rfl⟩:=j;rcases n with ⟨_,_,rfl | ⟨a,rfl⟩⟩ | ⟨b,arr,cap,_,_,_,rfl⟩ | ⟨h0,_⟩
 ·refine ⟨.slice Xe 0 0,?_,.sliceN⟩;simp [execOp,l,hu,h,i,Instr.sliceAt,Instr.slice,Instr.sliceBounds,Instr.sliceBound,asIntOf,run_underlying p,Zt g]
 ·refine ⟨.slice (Xa a) 0 0,?_,.sliceE (fun _=>rfl)⟩;simp [execOp,l,hu,h,i,Instr.sliceAt,Instr.slice,Instr.sliceBounds,Instr.sliceBound,asIntOf,run_underlying p,Zt g]
 ·refine ⟨.slice (Xa ⟨b,0,Xe⟩) 0 0,?_,.sliceE (fun _=>rfl)⟩;simp [execOp,l,hu,h,i,Instr.sliceAt,Instr.slice,Instr.sliceBounds,Instr.sliceBound,asIntOf,run_underlying p,Zt g]
 ·rw [t] at h0;cases h0
def VI {P:Program} {o:Oper} {σ:Nat→AV} (S:Bool) {cl:Call} {T e:TypeId} {i:TypeInfo} {z:Value} {x y:Operand} {d q:Nat} {r:List (List AV)} {s:Nat} (D:o.op = .call cl) (g:cl.callee = .builtin .append)
  (h:cl.args.toList = [x,y]) (E:cl.argTypes.toList = [T,T]) (hT:P.underlying T=Xa (.slice e)) (hi:P.info? e=Xa i) (hz:i.zero=Xa z) (G:z.cells.size=i.size)
  (hx:getS P σ x = .slice Xc s []) (hy:getS P σ y = .mref d q) (hd:Zy (σ d) q=Xa (e,r)) (k:(([] : List (List AV)).length+r.length)*(i.bytes+1)≤Jr) (l:Zv P e=Xb) :
  J3 P o σ (.own S e r) [] [d]:=by
 have f:cl.args = #[x,y]:=by apply XZ.1;rw [h]
 have u:cl.argTypes = #[T,T]:=by apply XZ.1;rw [E]
 intro c p m U w lim X A H a W Q hn;have J:getS P m x=getS P σ x:=ZL fun t L=>A t (by simp [ZA (o:=o) (x:=x) (by rw [D];simp [Op.operands,Call.operands,f,g]) L]);have M:getS P m y=getS P σ y:=ZL fun t L=>A t (by simp [ZA (o:=o) (x:=y) (by rw [D];simp [Op.operands,Call.operands,f,g]) L]);have N:Jt P w lim S e [] (Act.eval ⟨U,[]⟩ x) Xe:=ZbK (s:=s) (YU p a hx J);have O:Zy (m d) q=Xa (e,r):=by rw [H d (by simp),hd]
 have R:RdS w lim (P.cellsOf e) r (Act.eval ⟨U,[]⟩ y):=by
  have Y:=YU p a hy M;rw [← p] at Y ⊢;exact Znj a O Y (by rw [p];exact l)
 obtain ⟨v',w',Z,aa,r1,r2,r3,C⟩:=KN (ty:=o.type) hT hi hz G N R k l;have hw:=a.world r3 fun b n=>by cases n
 refine Zr (v:=v') (w':=w') ?_ (hn _ w' ?_)
 ·simp only [execOp,D,resolve,g,f,u,UQ,Xn,X5,Sem.run_bind,Sem.run_pure,Result.andThen_ok,invoke,builtin,r1]
 ·rw [← p,X9] at r2;refine Jp hw r2 (fun b n=>?_) fun _=>.noMap (by rw [p];exact l);rcases C with C | C
  ·rw [C] at n;cases n
  ·rw [C] at n;simp only [Xf] at n;subst n;exact ⟨.inr a.frm.size,fun i j=>KC a i j⟩
def Wb {T':Odr} {P:Program} {o:Oper} {σ:Nat→AV} {cl:Call} {T e:TypeId} {i:TypeInfo} {z:Value} {t:Nat} {y:Operand} {x:Bool} {xs p:List (List AV)} {us:List (Nat×AV)} {d q:Nat} (W:o.op = .call cl) (r:cl.callee = .builtin .append)
  (g:cl.args.toList = [.tmp t,y]) (D:cl.argTypes.toList = [T,T]) (hT:P.underlying T=Xa (.slice e)) (hi:P.info? e=Xa i) (hz:i.zero=Xa z) (E:z.cells.size=i.size)
  (G:σ t = .own x e xs) (hy:getS P σ y = .mref d q) (hd:Zy (σ d) q=Xa (e,p)) (k:(xs.length+p.length)*(i.bytes+1)≤Jr) (H:(x=Xb∧us = [])∨Yv T' σ t us) (l:Zv P e=Xb) :
  Vr T' P o σ (.own x e (xs++p)) ((t,Zao P x e xs)::us) [d]:=by
 have a:cl.args = #[.tmp t,y]:=by apply XZ.1;rw [g]
 have s:cl.argTypes = #[T,T]:=by apply XZ.1;rw [D]
 intro c m n J w lim X L u M f Y Q hn;have N:getS P n y=getS P σ y:=ZL fun t G=>L t (by simp [ZA (o:=o) (x:=y) (by rw [W];simp [Op.operands,Call.operands,a,r]) G]);have O:n t = .own x e xs:=by rw [u t (by simp),G]
 obtain ⟨X1,Z,h2,h3⟩:=f.freeAll (us:=us) O (H.imp id fun h=>h.all M);have R:Zy (n d) q=Xa (e,p):=by rw [u d (by simp),hd]
 have S:RdS w lim (P.cellsOf e) p (Act.eval ⟨J,[]⟩ y):=by
  have hv:=YU m f hy N;rw [← m] at hv ⊢;exact Znj f R hv (by rw [m];exact l)
 rw [m] at h2;obtain ⟨v',w',aa,ab,r1,r2,r3,A⟩:=KN (ty:=o.type) hT hi hz E h2 S k l;have hw:=Z.world r3 h3;refine Zr (v:=v') (w':=w') ?_ (hn _ w' ?_)
 ·have U:Act.eval ⟨J,[]⟩ (.tmp t)=J.getD t undef:=rfl;simp only [execOp,W,resolve,r,a,s,UQ,Xn,X5,Sem.run_bind,Sem.run_pure,Result.andThen_ok,invoke,builtin,U,r1]
 ·rw [m] at hw;rw [← m] at r2;refine Jp hw r2 (fun b C=>?_) fun _=>.noMap (by rw [m];exact l);rcases A with A | A
  ·rw [A] at C;exact h3 b C
  ·rw [A] at C;simp only [Xf] at C;subst C;exact ⟨.inr f.frm.size,fun i j=>KC Z i j⟩
def Wl {P:Program} {w:World} {T ty e:TypeId} {a:Option Addr} {c:Nat} (b:P.underlying T=Xa (.slice e)):(Builtin.clear_ #[T] ty #[.slice a 0 c]).run P w = .ok (.tuple #[]) w:=by
 cases a<;>simp [Builtin.clear_,run_underlying b]
def Zau {P:Program} {w:World} {T ty e t:TypeId} {f:TypeInfo} {z:Value} {b o n c:Nat} {arr:Array Value} (k:P.underlying T=Xa (.slice e)) (m:P.info? e=Xa f) (p:f.zero=Xa z) (q:w.heap[b]? = Xa (.cells arr t (0,0)))
  (g:o+(n+1)*z.cells.size≤arr.size) (r:∀ v∈z.cells.toList,v.oneCell'=Xc) :
  (Builtin.clear_ #[T] ty #[.slice (Xa ⟨b,o,Xe⟩) (n+1) c]).run P w =
   .ok (.tuple #[]) (w.setRow b (arr.toList.take o++(Xv (n+1) z.cells.toList).flatten++arr.toList.drop (o+(n+1)*z.cells.size)).toArray):=by
 have a:=replicate_zero z.cells.toList (n+1);rw [U4] at a
 have j:(Builtin.zeroCells z.cells (n+1)).toList=(Xv (n+1) z.cells.toList).flatten:=by
  have:Builtin.zeroCells z.cells (n+1)=madeCells z.cells ((n+1)*z.cells.toList.length):=by simp [Builtin.zeroCells,madeCells]
  rw [this];have s:madeCells z.cells ((n+1)*z.cells.toList.length)=((Xv (n+1) z.cells.toList).flatten).toArray:=a;rw [s]
 have d:((Xv (n+1) z.cells.toList).flatten).length=(n+1)*z.cells.size:=by simp
 have h:=run_storeCells_at P b o t ((Xv (n+1) z.cells.toList).flatten) 0 arr w q (by rw [d];exact g) (fun v i=>by
  obtain ⟨l,u,i⟩:=Tn.1 i;rw [(UJ.1 u).2] at i;exact r v i)
 rw [UN,d] at h;simp [Builtin.clear_,run_underlying k,zeroValue,typeInfo,run_program,m,p,j,h]
def Sim.clear {c:Ctx} {σ:Nat→AV} {J:Array Value} {w:World} {lim:Nat→Nat} {X:Nat→Nat→Option Nat} (h:Sim c σ J w lim X) {x n:Nat} {T e:TypeId} {f:TypeInfo} {z:Value} {zc:List AV} {xs:List (List AV)} (N:σ x = .own Xc e xs)
  (O:c.P.underlying T=Xa (.slice e)) (L:c.P.info? e=Xa f) (hz:f.zero=Xa z) (r:z.cells.size=f.size) (h0:0 < f.size) (t:∀ (w:World) (lim:Nat→Nat),Ys w lim zc z.cells.toList) (Z:∀ v∈z.cells.toList,v.oneCell'=Xc) (hn:n≤xs.length) (Q:Zv c.P e=Xb) :
  ∃ v2 w' X',(Instr.sliceAt T (J.getD x undef) (Xa (.int .i64 n)) Xe Xe).run c.P w = .ok v2 w∧(∀ ty,(Builtin.clear_ #[T] ty #[v2]).run c.P w = .ok (.tuple #[]) w')∧
   Sim c (upd σ x (.own Xc e (xs.take n++Xv (xs.length-n) zc))) J w' lim X'∧xs.length≤maxLen:=by
 have hk:c.P.cellsOf e=f.size:=ZF L;have l:=h.rel x;rw [N] at l;have l:Jt c.P w lim Xc e xs (J.getD x undef) (X x 0):=l
 have E:∀ ys,ys=xs→upd σ x (.own Xc e ys)=σ:=by
  rintro ys rfl;funext i;by_cases L:i=x
  ·subst L;rw [Jl,N]
  ·rw [Zp σ _ L]
 have R:∀ w,(sizeOf e).run c.P w = .ok f.size w:=fun w=>by rw [Zt L,hk]
 cases hX:X x 0 with
 | none =>
  rw [hX] at l
  have G:∃ base,J.getD x undef = .slice base 0 0∧xs = []:=by
   rcases l.noMap Q with ⟨us,hr,hob,_⟩ | ⟨hxs,_,a,A⟩
   ·rcases hr.2 with ⟨A,hl⟩ | ⟨g,cap,cur,A,_⟩
    ·exact ⟨Xe,A,Uh hl⟩
    ·rw [A] at hob;cases hob
   ·exact ⟨_,A,hxs⟩
  obtain ⟨base,A,rfl⟩:=G;have aa:n=0:=by simpa using hn
  subst aa;refine ⟨.slice base 0 0,w,X,?_,fun ty=>Wl O,by rw [E _ (by simp)];exact h,by simp⟩;rw [A]
  cases base<;>simp [Instr.sliceAt,Instr.slice,Instr.sliceBounds,Instr.sliceBound,asIntOf,run_underlying O,R]
 | some b =>
  rw [hX] at l;obtain ⟨arr,cap,A,hg,hl,ab,al,C,D,ac,ad⟩:=VF l (.inl Q);rw [hk] at C D;have ae:n≤cap:=by omega
  have H:z.cells.toList.length=f.size:=by rw [← r];simp
  have m:(Instr.sliceAt T (J.getD x undef) (Xa (.int .i64 n)) Xe Xe).run c.P w = .ok (.slice (if cap=n then Xa ⟨b,0,Xe⟩ else Xa ⟨b,n*f.size,Xe⟩) (xs.length-n) (cap-n)) w:=by
   rw [A];have q1:n≤xs.length:=hn;simp [Instr.sliceAt,Instr.slice,Instr.sliceBounds,Instr.sliceBound,asIntOf,run_underlying O,R,q1,ae,ab,J1]
  by_cases hend:n=xs.length
  ·refine ⟨_,w,X,m,fun ty=>?_,by rw [E _ (by rw [hend];simp)];exact h,by omega⟩;rw [hend,Nat.sub_self];exact Wl O
  ·have af:¬ cap=n:=by omega
   obtain ⟨p,hp⟩:∃ p,xs.length-n=p+1:=⟨xs.length-n-1,by omega⟩
   have m1:n*f.size+(p+1)*f.size≤cap*f.size:=by
    rw [← Nat.add_mul];exact XP _ (by omega)
   rw [P3 af,hp] at m;have S:=fun ty=>Zau (P:=c.P) (w:=w) (ty:=ty) (o:=n*f.size) (n:=p) (c:=cap-n) O L hz hg (by rw [r,C];exact m1) Z;have U:arr.toList.length=cap*f.size:=by simpa using C
   have W:((Xv (p+1) z.cells.toList).flatten).length=(p+1)*f.size:=by simp [H,← r]
   obtain ⟨arr',s⟩:∃ arr',arr'=(arr.toList.take (n*f.size)++(Xv (p+1) z.cells.toList).flatten++arr.toList.drop (n*f.size+(p+1)*z.cells.size)).toArray:=⟨_,rfl⟩;have ag:=YH (t w lim) (p+1);have ah:xs.flatten.length=xs.length*f.size:=Zs xs _ D;have am:n*f.size≤xs.length*f.size:=XP _ hn
   obtain ⟨X',hs⟩:=h.setPlace (d:=x) (k:=0) (b:=b) (e:=e) (xs:=xs) (xs':=xs.take n++Xv (p+1) zc) (arr:=arr) (arr':=arr') (by rw [N];rfl) (by rw [N];rfl) hX hg
    (by
     rw [s,List.size_toArray,XD,XD,W,Xu,XV,U,r,C];omega)
    (by rw [XD,Xu,Td];omega)
    (fun y q=>by
     rw [hk];rcases Xq.1 q with q | q
     ·exact D y (XL q)
     ·rw [(UJ.1 q).2,(t w lim).1,H])
    (fun y q=>by
     rcases Xq.1 q with q | q
     ·exact ac y (XL q)
     ·rw [(UJ.1 q).2];exact (t w lim).2.1)
    (fun j y u q M=>by
     rw [s,List.getElem?_toArray,XB] at M;rw [U0,J5 xs n D] at q;have ai:(xs.flatten.take (n*f.size)).length=n*f.size:=by rw [Xu,ah];omega
     have aj:(arr.toList.take (n*f.size)).length=n*f.size:=by rw [Xu,U];omega
     by_cases hj:j < n*f.size
     ·rw [XH (by omega),XI,P4 hj] at q;rw [XH (by omega),XI,P4 hj] at M;exact ad j y u q (by simpa using M)
     ·rw [XG (by omega),ai] at q;rw [XG (by omega),aj] at M;have Y:=(Xx.1 q).1;have ak:((Xv (p+1) zc).flatten).length=(p+1)*f.size:=by simp [(t w lim).1,H,← r]
      rw [ak] at Y;rw [XH (by rw [W];exact Y)] at M;exact ag.2.2 _ y u q M)
   refine ⟨_,_,X',m,S,?_,by omega⟩;rw [← s,hp];rw [N] at hs;exact hs
open Go.MapKept
open Go.RowKit (Below Below.refl)
def Ku (k:Int):IsKey (.int .i64) (.int .i64 k):=rfl
def Zay (z:Int) (c:List AV):Z1 (.val (.int .i64 z)::c)=Xa z:=rfl
def Zfo {P:Program} {et:TypeId} {w:World} {lim:Nat→Nat} {c:Array MapEntry} {p:Nat} {a:List (List AV)} (W:c.size=a.length) (R:Stamped c p) (S:∀ (i:Nat) (g:MapEntry) (b:List AV),c[i]? = Xa g→a[i]? = Xa b→Zb6 P w lim et g b) (k:Int) :
  (∀ x∈c.toList,IsKey (.int .i64) x.key)∧
  ((Instr.findNow (.int .i64) (.int .i64 k) c.toList 0=Xa Xe∧(∀ x∈c.toList,x.key≠.int .i64 k)∧∀ r∈a,Z1 r≠Xa k)∨
   ∃ j g b,Instr.findNow (.int .i64) (.int .i64 k) c.toList 0=Xa (Xa (j,g.val))∧c[j]? = Xa g∧a[j]? = Xa b∧g.key = .int .i64 k∧Z1 b=Xa k∧a.find? (fun r=>Z1 r == Xa k)=Xa b∧∀ i r,a[i]? = Xa r→i≠j→Z1 r≠Xa k):=by
 have q:∀ i (d:i < c.size),∃ b,a[i]? = Xa b∧Zb6 P w lim et c[i] b:=fun i d=>by
  have e:i < a.length:=by omega
  exact ⟨a[i],Xm e,S i _ _ (Uz d) (Xm e)⟩
 have m:∀ x∈c.toList,IsKey (.int .i64) x.key:=fun x T=>by
  obtain ⟨i,d,rfl⟩:=Ud.1 T;have e:i < c.size:=by simpa using d
  obtain ⟨b,_,z,J,_,n,_⟩:=q i e;have:c.toList[i]=c[i]:=by simp
  rw [this,n];exact rfl
 have u:∀ i r (d:i < c.size),a[i]? = Xa r→Z1 r=Xa k→c[i].key = .int .i64 k:=fun i r d v s=>by
  obtain ⟨b,t,z,J,y,n,_⟩:=q i d;rw [t] at v
  cases v
  rw [y,Zay] at s
  cases s
  exact n
 refine ⟨m,?_⟩;rcases findNow_spec (Ku k) c.toList 0 m with ⟨t,n⟩ | ⟨j,g,t,n,y⟩
 ·refine .inl ⟨t,n,fun r C s=>?_⟩;obtain ⟨i,d,rfl⟩:=Ud.1 C;have e:i < c.size:=by omega
  exact n c[i] (by simp) (u i _ e (Xm d) s)
 ·rw [XW] at t;have D:c[j]? = Xa g:=by simpa using n
  have h:j < c.size:=(UF.1 D).1;obtain ⟨b,L,z,J,M,N,X⟩:=q j h;have A:c[j]=g:=(UF.1 D).2;rw [A,y] at N
  cases N
  have f:∀ i r,a[i]? = Xa r→i≠j→Z1 r≠Xa k:=by
   intro i r d E s;have l:i < c.size:=by have:=(Xx.1 d).1;omega
   have U:=u i r l d s;have G:=R.2.2;rw [List.Nodup,List.pairwise_iff_getElem] at G;have O:(c.toList.map (·.key))[i]'(by simpa using l) = .int .i64 k:=by simp [U]
   have Q:(c.toList.map (·.key))[j]'(by simpa using h) = .int .i64 k:=by simp [A,y]
   rcases Nat.lt_or_gt_of_ne E with hlt | hlt
   ·exact G i j (by simpa using l) (by simpa using h) hlt (O.trans Q.symm)
   ·exact G j i (by simpa using h) (by simpa using l) hlt (Q.trans O.symm)
  refine .inr ⟨j,g,b,t,D,L,y,by rw [M];rfl,?_,f⟩;have H:j < a.length:=by omega
  have o:a[j]=b:=(Xx.1 L).2
  have:a.find? (fun r=>Z1 r == Xa k)=Xa a[j]:=by
   rw [List.find?_eq_some_iff_getElem];refine ⟨by rw [o,M];simp [Z1],j,H,rfl,fun i d=>?_⟩;have:=f i a[i] (Xm (by omega)) (by omega);simpa using this
  rw [this,o]
def Vt (w:World) (b:Nat) (o:Obj):World:={ w with heap:=w.heap.setIfInBounds b o }
def Vb {w:World} {b:Nat} {o o':Obj} (h:w.heap[b]? = Xa o):(Vt w b o').heap[b]? = Xa o':=(heap_set (o':=o') h).1
def Yd {w:World} {b b':Nat} {o:Obj} (a:b'≠b):(Vt w b o).heap[b']? = w.heap[b']?:=by
 unfold Vt;simp [Ne.symm a]
def Zgq {w:World} {lim:Nat→Nat} {b:Nat} {f es':Array MapEntry} {c clock':Nat} (h:w.heap[b]? = Xa (.map f c)) (g:lim b=0):Jc w lim (Vt w b (.map es' clock')) lim (fun b'=>b'=b):=by
 refine ⟨rfl,rfl,rfl,by simp [Vt],fun a i=>?_,fun b' _ d=>⟨Yd d,rfl⟩,fun b' _=>⟨Xt _,fun o u j e=>?_⟩⟩
 ·by_cases d:a.block=b
  ·unfold World.frozen?;rw [d,h,Vb h]
  ·unfold World.frozen?;rw [Yd d]
 ·by_cases d:b'=b
  ·subst d;omega
  ·unfold World.cell? at e ⊢;rw [Yd d];exact e
def Zd1 {c:Ctx} {σ:Nat→AV} {k:Array Value} {w:World} {lim:Nat→Nat} {X:Nat→Nat→Option Nat} (h:Sim c σ k w lim X) {d:Nat} {e:TypeId} {f:List (List AV)} {n:List AV} (o:σ d = .own Xc e [.slice Xb 2 f::n]) (p:c.P.cellsOf e=0) :
  Zv c.P e=Xc∧∃ b g a,X d 0=Xa b∧k.getD d undef = .map (Xa b)∧w.heap[b]? = Xa (.map g a)∧lim b=0∧g.size=f.length∧Stamped g a∧
   ∃ et,Wz c.P (e-1048576)=Xa et∧∀ (i:Nat) (l:MapEntry) (j:List AV),g[i]? = Xa l→f[i]? = Xa j→Zb6 c.P w lim et l j:=by
 have m:=h.rel d;rw [o] at m;rcases (show Jt c.P w lim Xc e _ _ (X d 0) from m) with ⟨us,_,_,_,h4,_⟩ | ⟨h1,_⟩ | ⟨_,hm,b,g,a,kvs',et,het,h1,h2,h3,h4,⟨tl',h5⟩,h6,h7,h8⟩
 ·have:=h4 _ (XF.2 rfl);rw [p] at this
  cases this
 ·cases h1
 ·simp only [List.cons.injEq,AV.slice.injEq,true_and,and_true] at h5;obtain ⟨rfl,rfl⟩:=h5;exact ⟨hm,b,g,a,h1,h2,h3,h4,h6,h7,et,het,h8⟩
def WX {c:Ctx} {σ:Nat→AV} {l:Array Value} {w:World} {lim:Nat→Nat} {X:Nat→Nat→Option Nat} (h:Sim c σ l w lim X) {d k:Nat} {e:TypeId} {f:List (List AV)} {n:List AV} (m:σ d = .own Xc e [.slice Xb 2 f::n]) (o:c.P.cellsOf e=0) {v:Value}
  (p:Z2 c.P w lim X σ k (.mref d 0) v):v=l.getD d undef:=by
 obtain ⟨_,b,s,g,i,q,r,_⟩:=Zd1 h m o;obtain ⟨e',xs',j,a⟩:=p;rw [m] at j;simp only [Zy,Xf,Xw] at j;obtain ⟨rfl,rfl⟩:=j;rcases a with ⟨a,_⟩ | ⟨b',arr,cap,a,m3,_⟩ | ⟨_,b',es',clock',a,m3,m4⟩
 ·rw [i] at a;cases a
 ·rw [i] at a;cases a;rw [r] at m3;cases m3
 ·rw [i] at a;cases a;rw [m4,q]
def Zjc {a:List (List AV)} {k:Int} {cl:AV} {j:Nat} {c:List AV} (e:a[j]? = Xa c) (f:Z1 c=Xa k) (g:∀ i r,a[i]? = Xa r→i≠j→Z1 r≠Xa k) :
  ∀ i r,(Y1 a k cl)[i]? = Xa r→if i=j then r = [.val (.int .i64 k),cl] else a[i]? = Xa r∧Z1 r≠Xa k:=by
 have d:(a.any fun r=>Z1 r == Xa k)=Xc:=Ut.2 ⟨c,Xo e,by simp [f]⟩;intro i r b;rw [Y1,P4 d,Xp] at b
 cases hr:a[i]? with
 | none => rw [hr] at b; cases b
 | some r0 =>
  rw [hr] at b;simp only [XA,Xf] at b;by_cases hij:i=j
  ·subst hij;rw [e] at hr
   cases hr
   rw [P4 rfl,← b,P4 (by simp [f])]
  ·rw [P3 hij];have:=g i r0 hr hij;rw [P3 (by simpa using this)] at b;subst b;exact ⟨rfl,this⟩
def ZkZ {a:List (List AV)} {k:Int} {cl:AV} {j:Nat} {b:List AV} (d:a[j]? = Xa b) (e:Z1 b=Xa k):(Y1 a k cl).length=a.length:=by
 have c:(a.any fun r=>Z1 r == Xa k)=Xc:=Ut.2 ⟨b,Xo d,by simp [e]⟩;rw [Y1,P4 c,Xi]
def Zru {a:List (List AV)} {k:Int} {cl:AV} (h:∀ r∈a,Z1 r≠Xa k):Y1 a k cl=a++[[.val (.int .i64 k),cl]]:=by
 have b:¬ (a.any fun r=>Z1 r == Xa k)=Xc:=by
  rw [Ut];rintro ⟨r,c,d⟩;exact h r c (by simpa using d)
 rw [Y1,P3 b]
def Sim.mapTake {c:Ctx} {σ:Nat→AV} {tm:Array Value} {w:World} {lim:Nat→Nat} {X:Nat→Nat→Option Nat} (h:Sim c σ tm w lim X) {d:Nat} {e et:TypeId} {kvs:List (List AV)} (k:Int) (hd:σ d = .own Xc e [[.slice Xb 2 kvs]]) (h0:c.P.cellsOf e=0) (het:Wz c.P (e-1048576)=Xa et) {T kt vt:TypeId}
  (hT:c.P.underlying T=Xa (.map kt vt)) (hkt:c.P.underlying kt=Xa (.int .i64)) (hz:(zeroValue vt).run c.P w = .ok (.slice Xe 0 0) w) :
  ∃ X' v ob ys,(Instr.lookup T (tm.getD d undef) (.int .i64 k) Xb).run c.P w = .ok v w∧Sim c (upd σ d (.own Xc e (YW [[.slice Xb 2 kvs]] k))) tm w lim X'∧Jt c.P w lim Xb et ys v ob∧ys=J4 [[.slice Xb 2 kvs]] k∧
   ∀ b,ob=Xa b→(c.A b∨c.w0.heap.size≤b)∧∀ i j,X' i j≠Xa b:=by
 obtain ⟨hm,b,es,clock,hX,hv,hb,hlb,hl,hs,et',het',hr⟩:=Zd1 h hd h0;rw [het] at het'
 cases het'
 have hdn:d < c.nt:=by
  rcases XS d c.nt with hlt | hge
  ·exact hlt
  ·have:=h.out d hge;rw [hd] at this;rcases this with h0 | h0<;>cases h0
 have hmo:=h.mp d e _ hd hm;obtain ⟨hkeys,hfind⟩:=Zfo hl hs hr k
 -- the map with its hole, whatever is taken out
 have hole:∀ (r:Nat→Option Nat),(∀ q,r q=X d q∨r q=Xe)→r 0=X d 0→(∀ (i:Nat) (en:MapEntry) (row:List AV),es[i]? = Xa en→kvs[i]? = Xa row→Z1 row≠Xa k→r (i+1)=X d (i+1))→
   Sim c (upd σ d (.own Xc e (YW [[.slice Xb 2 kvs]] k))) tm w lim (Zaz X d r):=by
  intro r hr1 hr0 hr2
  have hsub:∀ q b',r q=Xa b'→X d q=Xa b':=fun q b' hq=>by
   rcases hr1 q with h1 | h1
   ·rw [← h1];exact hq
   ·rw [h1] at hq;cases hq
  refine h.putRow (S:=fun _=>False) r (Jc.refl w lim _) (fun _ hs=>hs.elim) hdn rfl (fun _ _=>rfl) (.inl fun cs hcs=>by rw [hd] at hcs;cases hcs) (fun i q hi hq=>⟨?_,?_,fun b' hb'=>.of rfl⟩) ?_
   (fun q b' hq=>⟨(h.ours d q b' (hsub q b' hq)).1,(h.ours d q b' (hsub q b' hq)).2,fun i j hij hx=>hij (h.dist i j d q b' hx (hsub q b' hq)).1⟩) (fun q q' b' hq hq'=>(h.dist d q d q' b' (hsub q b' hq) (hsub q' b' hq')).2) rfl ?_
  ·intro e1 xs1 ho;rw [hd] at ho
   cases q with
   | zero => simp only [Zy, Xf, Xw] at ho; obtain ⟨rfl, rfl⟩ := ho; exact ⟨_, rfl, rfl⟩
   | succ q => cases ho
  ·obtain ⟨p,hp⟩:=VC h hq;rw [hd] at hp
   cases q with
   | zero => exact hr0
   | succ q => cases hp
  ·show Jt c.P w lim Xc e _ _ (Zaz X d r d 0);rw [Zx,hr0];exact .inr (.inr ⟨rfl,hm,b,es,clock,kvs,et,het,hX,hv,hb,hlb,⟨_,rfl⟩,hl,hs,hr⟩)
  ·intro e1 xs1 he;injection he with _ h1 h2;subst h1;intro _ b1 es1 clock1 kvs1 tl1 et1 g0 g1 g2 g3 i en row g4 g5 g6;rw [het] at g0
   cases g0
   rw [hr0,hX] at g1
   cases g1
   rw [hb] at g2
   cases g2
   rw [← h2] at g3;simp only [YW,KS,List.cons.injEq,AV.slice.injEq,true_and,and_true] at g3;obtain ⟨rfl,rfl⟩:=g3
   have hne:Z1 row≠Xa k:=by
    intro hk;obtain ⟨z,ys,e1,_⟩:=hr i en row g4 g5;rw [e1,Zay] at hk
    cases hk
    exact g6 _ (XF.2 rfl) (by rw [e1];rfl)
   obtain ⟨z,ys,k1,k2⟩:=hmo b es clock kvs [] et het hX hb rfl i en row g4 g5 (by simp);exact ⟨z,ys,k1,by rw [hr2 i en row g4 g5 hne];exact k2⟩
 rcases hfind with ⟨h1,_,h2⟩ | ⟨j,en,row,h1,h2,h3,h4,h5,h6,h7⟩
 ·have hg:kvs.find? (fun r=>Z1 r == Xa k)=Xe:=TV.2 fun r hr=>by simpa using h2 r hr
  refine ⟨_,.slice Xe 0 0,Xe,[],?_,hole (X d) (fun _=>.inl rfl) rfl (fun _ _ _ _ _ _=>rfl),.inl ⟨[],World.ownsRow_nil _ 0 et _,rfl,by simp,by simp,by simp,by simp⟩,by simp [J4,KS,hg],by simp⟩;rw [hv];simp [Instr.lookup,run_underlying hT,MapKept.run_getObj_map hb,MapKept.run_checkKey hkt (Ku k),MapKept.run_findKey hkt h1,hz,Result.andThen]
 ·obtain ⟨z,ys,k3,k2⟩:=hmo b es clock kvs [] et het hX hb rfl j en row h2 h3 (by simp);refine ⟨_,en.val,X d (j+1),ys,?_,hole (fun q=>if q=j+1 then Xe else X d q) (fun q=>by by_cases hq:q=j+1;exact .inr (P4 hq);exact .inl (P3 hq)) (P3 (by omega)) (fun i en' row' g1 g2 g3=>P3 fun hij=>?_),k2,?_,fun b1 hb1=>⟨(h.ours d _ b1 hb1).2,fun i j' hij=>?_⟩⟩
  ·rw [hv];simp [Instr.lookup,run_underlying hT,MapKept.run_getObj_map hb,MapKept.run_checkKey hkt (Ku k),MapKept.run_findKey hkt h1,Result.andThen]
  ·have:i=j:=by omega
   subst this;rw [h3] at g2
   cases g2
   exact g3 h5
  ·simp only [J4,KS,h6,k3,Zm0]
  ·by_cases hid:i=d
   ·subst hid;rw [Zx] at hij;split at hij
    ·cases hij
    ·rename_i hne;exact hne (h.dist i j' i (j+1) b1 hij hb1).2
   ·rw [ZC X _ hid] at hij;exact hid (h.dist i j' d (j+1) b1 hij hb1).1
def Sim.mapFill {c:Ctx} {σ:Nat→AV} {tm:Array Value} {w:World} {lim:Nat→Nat} {X:Nat→Nat→Option Nat} (h:Sim c σ tm w lim X) {d:Nat} {e et:TypeId} {kvs:List (List AV)} {tl:List AV} (k:Int) (hd:σ d = .own Xc e [.slice Xb 2 kvs::tl]) (h0:c.P.cellsOf e=0) (het:Wz c.P (e-1048576)=Xa et) {T kt vt:TypeId}
  (hT:c.P.underlying T=Xa (.map kt vt)) (hkt:c.P.underlying kt=Xa (.int .i64)) (htl:∀ x∈tl,x = .val (.int .i64 k)) {v:Value} {ob:Option Nat} {ys:List (List AV)} (hv:Jt c.P w lim Xb et ys v ob)
  (ho:∀ b,ob=Xa b→(c.A b∨c.w0.heap.size≤b)∧∀ i j,X i j≠Xa b) :
  ∃ w' X',(Instr.mapUpdate T (tm.getD d undef) (.int .i64 k) v).run c.P w = .ok () w'∧Sim c (upd σ d (.own Xc e (KQ [.slice Xb 2 kvs::tl] k (c.P.cellsOf et) ys))) tm w' lim X':=by
 obtain ⟨hm,b,es,clock,hX,hvd,hb,hlb,hl,hs,et',het',hr⟩:=Zd1 h hd h0;rw [het] at het'
 cases het'
 have hdn:d < c.nt:=by
  rcases XS d c.nt with hlt | hge
  ·exact hlt
  ·have:=h.out d hge;rw [hd] at this;rcases this with h0 | h0<;>cases h0
 have hmo:=h.mp d e _ hd hm;obtain ⟨hkeys,hfind⟩:=Zfo hl hs hr k;have hvr:=Jt.rep hv Xb rfl
 -- the new entries and rows
 have fill:∀ (j:Nat) (es':Array MapEntry) (clock':Nat) (kvs':List (List AV)),es'.size=kvs'.length→Stamped es' clock'→(∃ en,es'[j]? = Xa en∧en.key = .int .i64 k∧en.val=v)→(∃ row,kvs'[j]? = Xa row∧row = [.val (.int .i64 k),.slice Xb (c.P.cellsOf et) ys])→
   (∀ (i:Nat) (en:MapEntry) (row:List AV),i≠j→es'[i]? = Xa en→kvs'[i]? = Xa row→es[i]? = Xa en∧kvs[i]? = Xa row∧Z1 row≠Xa k)→
   Sim c (upd σ d (.own Xc e [[.slice Xb 2 kvs']])) tm (Vt w b (.map es' clock')) lim (Zaz X d fun q=>if q=j+1 then ob else X d q):=by
  intro j es' clock' kvs' g1 g2 g3 g4 g5;obtain ⟨en0,g31,g32,g33⟩:=g3;obtain ⟨row0,g41,g42⟩:=g4;have hstep:=Zgq (es':=es') (clock':=clock') hb hlb
  have hrows:∀ (i:Nat) (en:MapEntry) (row:List AV),es'[i]? = Xa en→kvs'[i]? = Xa row→Zb6 c.P (Vt w b (.map es' clock')) lim et en row:=by
   intro i en row m1 m2;by_cases hij:i=j
   ·subst hij;rw [g31] at m1;rw [g41] at m2
    cases m1
    cases m2
    exact ⟨k,ys,g42,g32,by rw [g33];exact hvr.mono hstep.ext⟩
   ·obtain ⟨n1,n2,_⟩:=g5 i en row hij m1 m2;obtain ⟨z,zs,p1,p2,p3⟩:=hr i en row n1 n2;exact ⟨z,zs,p1,p2,p3.mono hstep.ext⟩
  have hsplit:∀ q b',(if q=j+1 then ob else X d q)=Xa b'→(q=j+1∧ob=Xa b')∨(q≠j+1∧X d q=Xa b'):=fun q b' hq=>by
   by_cases hqj:q=j+1
   ·rw [P4 hqj] at hq;exact .inl ⟨hqj,hq⟩
   ·rw [P3 hqj] at hq;exact .inr ⟨hqj,hq⟩
  have hobb:ob≠Xa b:=fun hc=>(ho b hc).2 d 0 hX
  refine h.putRow (S:=fun b'=>b'=b) (fun q=>if q=j+1 then ob else X d q) hstep (fun b' hb'=>⟨0,by rw [hb'];exact hX⟩) hdn rfl (fun _ _=>rfl) (.inl fun cs hcs=>by rw [hd] at hcs;cases hcs) (fun i q hi hq=>⟨?_,?_,fun b' hb'=>?_⟩) ?_
   (fun q b' hq=>?_) (fun q q' b' hq hq'=>?_) rfl ?_
  ·intro e1 xs1 hoa;rw [hd] at hoa
   cases q with
   | zero => simp only [Zy, Xf, Xw] at hoa; obtain ⟨rfl, rfl⟩ := hoa; exact ⟨_, rfl, rfl⟩
   | succ q => cases hoa
  ·obtain ⟨p,hp⟩:=VC h hq;rw [hd] at hp
   cases q with
   | zero => exact P3 (by omega)
   | succ q => cases hp
  ·by_cases hbb:b'=b
   ·subst hbb;refine ⟨fun arr t m=>?_,fun es1 clock1 _=>⟨es',clock',Vb hb⟩⟩;rw [hb] at m;cases m
   ·exact .of (Yd hbb)
  ·show Jt c.P _ lim Xc e _ _ (Zaz X d _ d 0);rw [Zx];refine .inr (.inr ⟨rfl,hm,b,es',clock',kvs',et,het,?_,hvd,Vb hb,hlb,⟨_,rfl⟩,g1,g2,hrows⟩);rw [P3 (by omega)];exact hX
  ·rcases hsplit q b' hq with ⟨_,h1⟩ | ⟨_,h1⟩
   ·refine ⟨Uj ?_ hstep.size,(ho b' h1).1,fun i jj _ hx=>(ho b' h1).2 i jj hx⟩;have:=hv;rw [h1] at this;exact this.lt
   ·exact ⟨Uj (h.ours d q b' h1).1 hstep.size,(h.ours d q b' h1).2,fun i jj hij hx=>hij (h.dist i jj d q b' hx h1).1⟩
  ·rcases hsplit q b' hq with ⟨h1,h2⟩ | ⟨_,h2⟩ <;> rcases hsplit q' b' hq' with ⟨h3,h4⟩ | ⟨_,h4⟩
   ·omega
   ·exact ((ho b' h2).2 d q' h4).elim
   ·exact ((ho b' h4).2 d q h2).elim
   ·exact (h.dist d q d q' b' h2 h4).2
  ·intro e1 xs1 he;injection he with _ h1 h2;subst h1;intro _ b1 es1 clock1 kvs1 tl1 et1 m0 m1 m2 m3 i en row m4 m5 m6;rw [het] at m0
   cases m0
   have m1':X d 0=Xa b1:=by have:=m1;dsimp only at this;rwa [P3 (by omega)] at this
   rw [hX] at m1'
   cases m1'
   rw [Vb hb] at m2
   cases m2
   rw [← h2] at m3;simp only [List.cons.injEq,AV.slice.injEq,true_and,and_true] at m3;obtain ⟨rfl,rfl⟩:=m3;by_cases hij:i=j
   ·subst hij;rw [g31] at m4;rw [g41] at m5
    cases m4
    cases m5
    refine ⟨k,ys,g42,?_⟩;show Jt c.P _ lim Xb et ys en0.val (if i+1=i+1 then ob else X d (i+1));rw [P4 rfl,g33];exact hv.mono hstep.ext fun b1 hb1=>⟨Yd fun hc=>hobb (by rw [hb1,hc]),rfl⟩
   ·obtain ⟨n1,n2,n3⟩:=g5 i en row hij m4 m5
    obtain ⟨z,zs,p1,p2⟩:=hmo b es clock kvs tl et het hX hb rfl i en row n1 n2 (fun x hx hc=>by
     rw [htl x hx] at hc
     cases row with
     | nil => cases hc
     | cons y row => simp only [List.head?_cons, Xf] at hc; subst hc; exact n3 rfl)
    refine ⟨z,zs,p1,?_⟩;show Jt c.P _ lim Xb et zs en.val (if i+1=j+1 then ob else X d (i+1));rw [P3 (by omega)];exact p2.mono hstep.ext fun b1 hb1=>⟨Yd fun hc=>by subst hc;have:=(h.dist d (i+1) d 0 b1 hb1 hX).2;omega,rfl⟩
 rcases hfind with ⟨h1,h2,h3⟩ | ⟨j,en,row,h1,h2,h3,h4,h5,h6,h7⟩
 ·refine ⟨Vt w b (.map (es.push ⟨.int .i64 k,v,clock⟩) (clock+1)),Zaz X d (fun q=>if q=es.size+1 then ob else X d q),?_,?_⟩
  rotate_left
  ·have:=fill es.size (es.push ⟨.int .i64 k,v,clock⟩) (clock+1) (kvs++[[.val (.int .i64 k),.slice Xb (c.P.cellsOf et) ys]]) (by simp [hl]) (stamped_push hs h2) ⟨⟨.int .i64 k,v,clock⟩,by simp,rfl,rfl⟩ ⟨[.val (.int .i64 k),.slice Xb (c.P.cellsOf et) ys],by rw [hl];simp,rfl⟩ (fun i en row hi m1 m2=>?_)
   ·simp only [KQ,KS,Zru h3];exact this
   ·have hlt:i < es.size:=by
     have:=(UF.1 m1).1;simp at this;omega
    rw [Array.getElem?_push,P3 (by omega)] at m1;rw [XH (by omega)] at m2;exact ⟨m1,m2,h3 row (Xo m2)⟩
  ·rw [hvd];simp [Instr.mapUpdate,run_underlying hT,MapKept.run_getObj_map hb,MapKept.run_checkKey hkt (Ku k),MapKept.run_findKey hkt h1,MapKept.run_setObj_map _ hb,Result.andThen,Vt]
 ·have hj:es[j]? = Xa en:=h2;have hjl:j < es.size:=(UF.1 h2).1;have hkeyf:∀ e',es[j]? = Xa e'→({ e' with key:=.int .i64 k,val:=v } : MapEntry).key=e'.key:=fun e' he'=>by rw [hj] at he';cases he';exact h4.symm
  refine ⟨Vt w b (.map (es.modify j fun e'=>{ e' with key:=.int .i64 k,val:=v }) clock),Zaz X d (fun q=>if q=j+1 then ob else X d q),?_,?_⟩
  rotate_left
  ·have:=fill j (es.modify j fun e'=>{ e' with key:=.int .i64 k,val:=v }) clock (Y1 kvs k (.slice Xb (c.P.cellsOf et) ys)) (by rw [Array.size_modify,hl,ZkZ h3 h5]) (stamped_modify hs _ _ (fun _ _=>rfl) (fun e' _ he'=>hkeyf e' he')) ⟨{ en with key:=.int .i64 k,val:=v },by simp [TX,hj],rfl,rfl⟩ ?_ (fun i en' row' hi m1 m2=>?_)
   ·simp only [KQ,KS];exact this
   ·have hlen:=ZkZ (cl:=.slice Xb (c.P.cellsOf et) ys) h3 h5;have hjk:j < (Y1 kvs k (.slice Xb (c.P.cellsOf et) ys)).length:=by omega
    have:=Zjc (cl:=.slice Xb (c.P.cellsOf et) ys) h3 h5 h7 j _ (Xm hjk);rw [P4 rfl] at this;exact ⟨_,Xm hjk,this⟩
   ·have m3:=Zjc h3 h5 h7 i row' m2;rw [P3 hi] at m3;rw [TX,P3 (by omega)] at m1;exact ⟨m1,m3⟩
  ·rw [hvd];simp [Instr.mapUpdate,run_underlying hT,MapKept.run_getObj_map hb,MapKept.run_checkKey hkt (Ku k),MapKept.run_findKey hkt h1,hj,h4,MapKept.run_keyThatStays (Ku k),MapKept.run_setObj_map _ hb,Result.andThen,Vt]
def V1 {P:Program} {T et:TypeId} (h:Wz P T=Xa et):∃ a b,P.underlying T=Xa (.map a b)∧P.underlying a=Xa (.int .i64)∧P.underlying b=Xa (.slice et):=by
 unfold Wz at h;split at h
 ·rename_i a b c;split at h
  ·rename_i d e f
   cases h
   exact ⟨a,b,c,e,f⟩
  ·cases h
 ·cases h
def Ziq {P:Program} {T b a:TypeId} (c:P.underlying T=Xa (.map b a)) (h:Zvu P T=Xc) (w:World):(zeroValue a).run P w = .ok (.slice Xe 0 0) w:=by
 unfold Zvu at h;rw [c] at h;dsimp only at h;split at h
 ·rename_i i d;split at h
  ·rename_i e;simp [zeroValue,typeInfo,run_program,d,e]
  ·cases h
 ·cases h
def Zlh {w:World} {lim:Nat→Nat} (o:Obj) (S:Nat→Prop):Jc w lim (w.alloc o) (fun b=>if b=w.heap.size then 0 else lim b) S where
 os:=rfl
 tape:=rfl
 output:=rfl
 size:=by simp
 frz a ha:=by
  unfold World.frozen?;rw [heap_alloc_old w o ha]
 blk b hb _:=⟨heap_alloc_old w o hb,P3 (by omega)⟩
 ext b hb:=⟨by show lim b≤if b=w.heap.size then 0 else lim b;rw [P3 (by omega)];exact Xt _,fun o' u _ c=>by
  unfold World.cell? at c ⊢;rw [heap_alloc_old w o hb];exact c⟩
def Zgg {P:Program} {o:Oper} {σ:Nat→AV} {T et:TypeId} (k:o.op = .makeMap T Xe) (l:Wz P T=Xa et):J3 P o σ (.own Xc (T+1048576) [[.slice Xb 2 []]]) [] []:=by
 intro c m n y w lim X p q a g Q r;have d:=Zlh (w:=w) (lim:=lim) (.map #[] 0) (fun _=>False);have f:=a.world d fun _ s=>s.elim;have e:(w.alloc (.map #[] 0)).heap[w.heap.size]? = Xa (.map #[] 0):=heap_alloc_new w _;refine Zr (v:=.map (Xa w.heap.size)) (w':=w.alloc (.map #[] 0)) ?_ (r _ _ (Jp (ob:=Xa w.heap.size) f (.inr (.inr ⟨rfl,by simp [Zv],w.heap.size,#[],0,[],et,by rw [TF,m];exact l,rfl,rfl,e,P4 rfl,⟨_,rfl⟩,rfl,stamped_empty 0,fun i z t h=>by simp at h⟩)) (fun b u=>?_) fun _=>.mv (.inr rfl)))
 ·have x:(Instr.makeMap T Xe).run P w = .ok (.map (Xa w.heap.size)) (w.alloc (.map #[] 0)):=rfl;simp only [execOp,k,Option.map_none,x,Sem.run_bind,Result.andThen_ok,Sem.run_pure]
 ·cases u
  exact ⟨.inr a.frm.size,fun i j=>KC a i j⟩
def ZhD {P:Program} {o:Oper} {σ:Nat→AV} {T et e:TypeId} {m v:Operand} {d:Nat} {f:List (List AV)} {x:List AV} {k:Int} (y:o.op = .lookup T m v Xb) (J:Wz P T=Xa et) (O:Zvu P T=Xc) (Q:getS P σ m = .mref d 0) (R:σ d = .own Xc e [.slice Xb 2 f::x]) (L:P.cellsOf e=0) (S:e=T+1048576)
  (U:getS P σ v = .val (.int .i64 k)):J3 P o σ (.slice Xb (P.cellsOf et) (J4 [.slice Xb 2 f::x] k)) [] [d]:=by
 refine ZD [d] rfl fun c i A tm w lim X C D a=>?_;rw [y] at C;have M:=YU i a Q (C m (by simp [Op.operands]));have p:=Jq i a U (C v (by simp [Op.operands]));have q:A d = .own Xc e [.slice Xb 2 f::x]:=by rw [D d (by simp),R]
 rw [← i] at M;have s:=WX a q (by rw [i];exact L) M;obtain ⟨_,b,es,E,hX,t,N,W,Y,Z,aa,h,u⟩:=Zd1 a q (by rw [i];exact L);rw [S,TF,i,J] at h
 cases h
 rw [i] at u;obtain ⟨kt,vt,l,g,ab⟩:=V1 J;obtain ⟨_,n⟩:=Zfo Y Z u k;have G:=Ziq l O w;rcases n with ⟨h1,_,h2⟩ | ⟨j,en,row,h1,h2,h3,h4,h5,h6,h7⟩
 ·have H:f.find? (fun r=>Z1 r == Xa k)=Xe:=TV.2 fun r u=>by simpa using h2 r u
  refine ⟨.slice Xe 0 0,?_,?_⟩
  ·simp [execOp,y,s,t,p,Instr.lookup,run_underlying l,MapKept.run_getObj_map N,MapKept.run_checkKey g (Ku k),MapKept.run_findKey g h1,G,Result.andThen]
  ·simp only [J4,KS,H];exact .sliceN
 ·obtain ⟨z,ys,p1,p2,p3⟩:=u j en row h2 h3;refine ⟨en.val,?_,?_⟩
  ·simp [execOp,y,s,t,p,Instr.lookup,run_underlying l,MapKept.run_getObj_map N,MapKept.run_checkKey g (Ku k),MapKept.run_findKey g h1,Result.andThen]
  ·simp only [J4,KS,h6,p1,Zm0];exact p3
def Zbr {P:Program} {o:Oper} {σ:Nat→AV} {T et e:TypeId} {m l:Operand} {d:Nat} {f:List (List AV)} {k:Int} (x:o.op = .lookup T m l Xb) (z:Wz P T=Xa et) (G:Zvu P T=Xc) (H:getS P σ m = .mref d 0) (J:σ d = .own Xc e [[.slice Xb 2 f]]) (A:P.cellsOf e=0) (L:e=T+1048576)
  (M:getS P σ l = .val (.int .i64 k)):J3 P o σ (.own Xb et (J4 [[.slice Xb 2 f]] k)) [(d,.own Xc e (YW [[.slice Xb 2 f]] k))] []:=by
 intro c b g tm w lim X n p a C Q N;have q:∀ y∈o.op.operands,getS P g y=getS P σ y:=fun y O=>ZL fun t R=>n t (by simp [ZA O R]);rw [x] at q;have D:=YU b a H (q m (by simp [Op.operands]));have r:=Jq b a M (q l (by simp [Op.operands]));have i:g d = .own Xc e [[.slice Xb 2 f]]:=by rw [p d (by simp),J]
 rw [← b] at D;have s:=WX a i (by rw [b];exact A) D;obtain ⟨kt,vt,j,u,S⟩:=V1 z;obtain ⟨X',v,ob,ys,E,U,W,Y,Z⟩:=a.mapTake (et:=et) k i (by rw [b];exact A) (by rw [L,TF,b];exact z) (by rw [b];exact j) (by rw [b];exact u) (by rw [b];exact Ziq j G w);rw [b] at E;subst Y;refine Zr (v:=v) (w':=w) ?_ (N v w (Jp U W Z fun h=>by cases h));simp only [execOp,x,s,r,E,Sem.run_bind,Result.andThen_ok,Sem.run_pure]
def Zhu {P:Program} {o:Oper} {σ:Nat→AV} {T et e:TypeId} {m s:Operand} {d t:Nat} {g n:List (List AV)} {p:List AV} {k:Int} (b:o.op = .insert T m s (.tmp t)∨o.op = .mapUpdate T m s (.tmp t)) (N:Wz P T=Xa et) (Z:getS P σ m = .mref d 0) (hd:σ d = .own Xc e [.slice Xb 2 g::p]) (O:P.cellsOf e=0) (he:e=T+1048576)
  (hk:getS P σ s = .val (.int .i64 k)) (u:∀ x∈p,x = .val (.int .i64 k)) (v:σ t = .own Xb et n):J3 P o σ .dead [(t,.slice Xb (P.cellsOf et) n),(d,.own Xc e (KQ [.slice Xb 2 g::p] k (P.cellsOf et) n))] []:=by
 intro c f i R w lim X z r a S Q hn;have U:∀ y∈o.op.operands,getS P i y=getS P σ y:=fun y hy=>ZL fun t v=>z t (by simp [ZA hy v]);have A:=U m (by rcases b with b | b<;>rw [b]<;>simp [Op.operands]);have C:=U s (by rcases b with b | b<;>rw [b]<;>simp [Op.operands]);have W:=YU f a Z A;have D:=Jq f a hk C;have l:i d = .own Xc e [.slice Xb 2 g::p]:=by rw [r d (by simp),hd]
 have j:i t = .own Xb et n:=by rw [r t (by simp),v]
 have E:t≠d:=fun h=>by rw [h,l] at j;cases j
 rw [← f] at W;have G:=WX a l (by rw [f];exact O) W;obtain ⟨kt,vt,H,J,aa⟩:=V1 N;obtain ⟨f1,f2,f3⟩:=a.free j (a.noRefs fun q=>by rw [j];cases q<;>rfl);have L:upd i t (Zao c.P Xb et n) d = .own Xc e [.slice Xb 2 g::p]:=by rw [Zp _ _ (Ne.symm E)];exact l
 obtain ⟨w',X',Y,r2⟩:=f1.mapFill (et:=et) k L (by rw [f];exact O) (by rw [he,TF,f];exact N) (by rw [f];exact H) (by rw [f];exact J) u f2 f3;rw [f] at Y;refine Ka (w':=w') ?_ (hn undef w' ?_)
 ·have M:Act.eval ⟨R,[]⟩ (.tmp t)=R.getD t undef:=rfl;rcases b with b | b<;>simp only [execOp,b,G,D,M,Y,Sem.run_bind,Result.andThen_ok,Sem.run_pure]
 ·rw [← f];exact ZH r2 rfl (k:=0) trivial
def ZbX {P:Program} {o:Oper} {σ:Nat→AV} {T et e:TypeId} {m q h:Operand} {d s:Nat} {i:List (List AV)} {r:List AV} {k:Int} (f:o.op = .insert T m q h∨o.op = .mapUpdate T m q h) (R:Wz P T=Xa et) (Z:getS P σ m = .mref d 0) (hd:σ d = .own Xc e [.slice Xb 2 i::r]) (S:P.cellsOf e=0) (he:e=T+1048576)
  (hk:getS P σ q = .val (.int .i64 k)) (u:∀ x∈r,x = .val (.int .i64 k)) (z:getS P σ h = .slice Xc s []):J3 P o σ .dead [(d,.own Xc e (KQ [.slice Xb 2 i::r] k (P.cellsOf et) []))] []:=by
 intro c g j A w lim X C D a U Q hn;have E:∀ y∈o.op.operands,getS P j y=getS P σ y:=fun y hy=>ZL fun t ht=>C t (by simp [ZA hy ht]);have G:=E m (by rcases f with f | f<;>rw [f]<;>simp [Op.operands]);have H:=E q (by rcases f with f | f<;>rw [f]<;>simp [Op.operands]);have J:=E h (by rcases f with f | f<;>rw [f]<;>simp [Op.operands]);have W:=YU g a Z G;have L:=Jq g a hk H;have l:Rep w lim (.slice Xc s []) (Act.eval ⟨A,[]⟩ h):=YU g a z J;have n:j d = .own Xc e [.slice Xb 2 i::r]:=by rw [D d (by simp),hd]
 rw [← g] at W;have M:=WX a n (by rw [g];exact S) W;obtain ⟨kt,vt,N,O,aa⟩:=V1 R
 have p:Jt c.P w lim Xb et [] (Act.eval ⟨A,[]⟩ h) Xe:=by
  generalize Act.eval ⟨A,[]⟩ h=v at l
  cases l with
  | sliceN => exact .inl ⟨[], World.ownsRow_nil _ 0 et _, rfl, by simp, by simp, by simp, by simp⟩
  | sliceE hf => rw [hf rfl]; exact .inr (.inl ⟨rfl, rfl, _, rfl⟩)
  | sliceC hs1 hc1 hf1 hle1 hl1 hus1 hcl1 h1 => rw [hf1 rfl]; exact .inr (.inl ⟨rfl, rfl, _, rfl⟩)
 obtain ⟨w',X',Y,r2⟩:=a.mapFill (et:=et) k n (by rw [g];exact S) (by rw [he,TF,g];exact R) (by rw [g];exact N) (by rw [g];exact O) u p (fun b hb=>by cases hb);rw [g] at Y;refine Ka (w':=w') ?_ (hn undef w' ?_)
 ·rcases f with f | f<;>simp only [execOp,f,M,L,Y,Sem.run_bind,Result.andThen_ok,Sem.run_pure]
 ·rw [← g];exact ZH r2 rfl (k:=0) trivial
def ZnS (x:MapEntry):Int:=match x.key with | .int _ z=>z | _=>0
def Vz (P:Program) (d:List (FuncId×FuncId×FuncId)):Prop:=
 ∀ p∈d,Callable P p.1∧Callable P p.2.1∧
  (∀ (b:Nat) (w:World),Calls P p.1 #[.map (Xa b)] w fun e w'=>e = .returned (.func (.func p.2.2) #[] #[.pointer (Xa ⟨w.heap.size,0,Xe⟩)])∧∃ T,w'=w.alloc (.cells #[.map (Xa b)] T))∧
  ∀ (w:World) (B b:Nat) (c:Array MapEntry) (a:Nat),w.cell? ⟨B,0,Xe⟩=Xa (.map (Xa b))→w.heap[b]? = Xa (.map c a)→Stamped c a→c.size≤1048576→
   (∀ x∈c.toList,∃ z:Int,x.key = .int .i64 z∧-9223372036854775808≤z∧z≤9223372036854775807)→
   Calls P p.2.1 #[.func (.func p.2.2) #[] #[.pointer (Xa ⟨B,0,Xe⟩)]] w fun e w'=>∃ v et,e = .returned v∧
    w'.ownsRow w.heap.size et 1 v c.size (((c.toList.map ZnS).mergeSort fun x y=>decide (x≤y)).map (Value.int .i64))∧Below w.heap.size w w'
def Zca {w w':World} {lim:Nat→Nat} {N:Nat} (h:Below w.heap.size w w') (S:Nat→Prop):Jc w lim w' (fun b=>if b < w.heap.size then lim b else N) S where
 os:=h.os
 tape:=h.tape
 output:=h.output
 size:=h.size
 frz a ha:=by
  unfold World.frozen?;rw [h.block _ ha]
 blk b hb _:=⟨h.block b hb,P4 hb⟩
 ext b hb:=⟨by dsimp only;rw [P4 hb];exact Xt _,fun o' u _ c=>by
  unfold World.cell? at c ⊢;rw [h.block b hb];exact c⟩
def ZiD {P:Program} {o:Oper} {cl:Call} {f:FuncId} {x:Operand} {e:Array Value} {w:World} {v:Value} (j:o.op = .call cl) (g:cl.callee = .value (.func f)) (b:cl.args.toList = [x]) (k:Callable P f) (l:Act.eval ⟨e,[]⟩ x=v) :
  (execOp (Act.eval ⟨e,[]⟩) o).run P w = .ok (.enter f #[v]) w:=by
 obtain ⟨m,h,c,d⟩:=k;have a:cl.args = #[x]:=by apply XZ.1;rw [b]
 have i:Act.eval ⟨e,[]⟩ (.func f) = .func (.func f) #[] #[]:=rfl;simp only [execOp,j,Sem.run_bind,resolve,g,i,Deferred.ofValue,Sem.run_pure,Result.andThen_ok,a,invoke,callFunc,run_program,h,c,d];simp [l]
def Znq {P:Program} {o:Oper} {σ:Nat→AV} {C:List (FuncId×FuncId×FuncId)} {p:FuncId×FuncId×FuncId} {cl:Call} {x:Operand} {d:Nat} {e:TypeId} {l:List (List AV)} {D:List AV} (q:Vz P C) (N:p∈C) (E:o.op = .call cl) (m:cl.callee = .value (.func p.1)) (f:cl.args.toList = [x])
  (O:getS P σ x = .mref d 0) (R:σ d = .own Xc e [.slice Xb 2 l::D]) (G:P.cellsOf e=0):J3 P o σ (.eref d 0 p.2.2) [] [d]:=by
 intro c n h tm w lim X r s a H Q S;have g:cl.args = #[x]:=by apply XZ.1;rw [f]
 have u:getS P h x=getS P σ x:=ZL fun t U=>r t (ZA (x:=x) (by rw [E];simp [Op.operands,Call.operands,m,g]) U);have J:=YU n a O u;have i:h d = .own Xc e [.slice Xb 2 l::D]:=by rw [s d (by simp),R]
 rw [← n] at J;have v:=WX a i (by rw [n];exact G) J;obtain ⟨W,b,es,y,Y,z,hb,Z,hl,L,aa,M,hr⟩:=Zd1 a i (by rw [n];exact G);obtain ⟨k1,_,k3,_⟩:=q p N;unfold Oper.wp;rw [ZiD E m f k1 (v.trans z),Oper.upon_enter];refine (k3 b w).mono ?_;rintro e1 w' ⟨rfl,T,rfl⟩;refine S _ _ ?_;have j:Jc w lim (w.alloc (.cells #[.map (Xa b)] T)) (fun b'=>if b' < w.heap.size then lim b' else 1) (fun _=>False):=Zca ((Below.refl _ w).alloc (Xt _) _) _;have A:=a.world j fun _ L=>L.elim;refine ZH A rfl (k:=0) ⟨b,e,_,by show Zy (h d) 0=_;rw [i];rfl,Y,.inr ⟨W,w.heap.size,rfl,?_,?_⟩⟩
 ·show 0 < if w.heap.size < w.heap.size then lim w.heap.size else 1;rw [P3 (by omega)];exact Nat.one_pos
 ·have:(w.alloc (.cells #[.map (Xa b)] T)).heap[w.heap.size]? = Xa (.cells #[.map (Xa b)] T (0,0)):=heap_alloc_new w _;simp only [World.cell?,this];rfl
def Zhb {P:Program} {w:World} {lim:Nat→Nat} {et:TypeId} : ∀ (c:List MapEntry) (a:List (List AV)),c.length=a.length→(∀ (i:Nat) (d:MapEntry) (b:List AV),c[i]? = Xa d→a[i]? = Xa b→Zb6 P w lim et d b)→a.filterMap Z1=c.map ZnS
 | [], [], _, _ => rfl
 | d :: c, b :: a, hl, h => by
  obtain ⟨z,m,f,g,_⟩:=h 0 d b rfl rfl;have j:ZnS d=z:=by simp [ZnS,g]
  rw [UW,f,Zay,Xn,j,Zhb c a (by simpa using hl) fun i e r k l=>h (i+1) e r k l]
 | [], _ :: _, hl, _ => by simp at hl
 | _ :: _, [], hl, _ => by simp at hl
def Zgp:∀ (zs:List Int),(zs.map fun z=>[AV.val (.int .i64 z)]).flatten=zs.map fun z=>AV.val (.int .i64 z)
 | [] => rfl
 | z :: zs => by rw [Xn, Un, Zgp zs]; rfl
def Zh4 {P:Program} {o:Oper} {σ:Nat→AV} {ks:List (FuncId×FuncId×FuncId)} {p:FuncId×FuncId×FuncId} {cl:Call} {x:Operand} {d:Nat} {e:TypeId} {a:List (List AV)} (aa:Vz P ks) (hp:p∈ks) (ho:o.op = .call cl) (J:cl.callee = .value (.func p.2.1)) (m:cl.args.toList = [x])
  (L:getS P σ x = .eref d 0 p.2.2) (hd:σ d = .own Xc e [[.slice Xb 2 a]]) (h0:P.cellsOf e=0) (ak:a.length≤1048576) (E:∀ r∈a,WC r=Xc):J3 P o σ (.slice Xb 1 (VR [[.slice Xb 2 a]])) [] [d]:=by
 intro c hc M tm w lim X ab ac n al Q hn;have C:cl.args = #[x]:=by apply XZ.1;rw [m]
 have ad:getS P M x=getS P σ x:=ZL fun t ht=>ab t (ZA (x:=x) (by rw [ho];simp [Op.operands,Call.operands,J,C]) ht);have hv:=YU hc n L ad;have N:M d = .own Xc e [[.slice Xb 2 a]]:=by rw [ac d (by simp),hd]
 rw [← hc] at hv;obtain ⟨hm,b,l,G,hX,an,hb,ao,hl,hs,ae,am,hr⟩:=Zd1 n N (by rw [hc];exact h0);obtain ⟨b',e',xs',m1,m2,Y⟩:=hv;rw [N] at m1;simp only [Zy,Xf,Xw] at m1;obtain ⟨rfl,rfl⟩:=m1;rw [hX] at m2
 cases m2
 rcases Y with ⟨Y,_⟩ | ⟨_,B,hvx,hlB,hcB⟩
 ·rw [hm] at Y;cases Y
 obtain ⟨_,k2,_,k4⟩:=aa p hp;unfold Oper.wp;rw [ZiD ho J m k2 hvx,Oper.upon_enter];have O:∀ i (Z:i < l.size),∃ f,a[i]? = Xa f∧Zb6 c.P w lim ae l[i] f:=fun i Z=>⟨a[i]'(by omega),Xm _,hr i _ _ (Uz Z) (Xm _)⟩;refine (k4 w B b l G hcB hb hs (by omega) fun y D=>?_).mono ?_
 ·obtain ⟨i,Z,rfl⟩:=Ud.1 D;have af:i < l.size:=by simpa using Z
  obtain ⟨f,h1,z,ys,h2,h3,_⟩:=O i af;have hf:=E f (Xo h1);rw [h2] at hf;simp only [WC,Zay,Xk,P5] at hf;have:l.toList[i]=l[i]:=by simp
  exact ⟨z,by rw [this];exact h3,hf.1,hf.2⟩
 ·rintro e1 w' ⟨v,et,rfl,q,R⟩;refine hn _ _ ?_;have H:Jc w lim w' (fun b'=>if b' < w.heap.size then lim b' else l.size) (fun _=>False):=Zca R _;have ag:=n.world H fun _ hs=>hs.elim;refine ZH ag rfl (k:=0) ?_;have S:a.filterMap Z1=l.toList.map ZnS:=Zhb l.toList a (by simpa using hl) fun i en f g1 g2=>hr i en f (by simpa using g1) g2;show Rep w' _ (.slice Xb 1 (VR [[.slice Xb 2 a]])) v;have ah:VR [[.slice Xb 2 a]]=((l.toList.map ZnS).mergeSort fun x y=>decide (x≤y)).map fun z=>[.val (.int .i64 z)]:=by simp only [VR,KS,S]
  rw [ah];generalize hz:(l.toList.map ZnS).mergeSort (fun x y=>decide (x≤y))=zs at q;have ai:zs.length=l.size:=by rw [← hz];simp
  rcases q.2 with ⟨rfl,hn0⟩ | ⟨g,cap,cur,rfl,hbg,hg,hnc,hcm,hcs,htake⟩
  ·have:zs = []:=Uh (by omega);subst this;exact .sliceN
  ·rw [← ai] at hnc ⊢;have T:(zs.map fun z=>[AV.val (.int .i64 z)]).length=zs.length:=by simp
   have aj:(zs.map fun z=>[AV.val (.int .i64 z)]).flatten=zs.map fun z=>AV.val (.int .i64 z):=by
    exact Zgp zs
   have U:=Rep.sliceC (w:=w') (lim:=fun b'=>if b' < w.heap.size then lim b' else zs.length) (full:=Xb) (s:=1) (xs:=zs.map fun z=>[AV.val (.int .i64 z)]) (b:=g) (o:=0) (cap:=cap) (us:=zs.map (Value.int .i64))
    (fun x L=>by obtain ⟨z,_,rfl⟩:=Xs.1 L;rfl) (fun x L y D=>by obtain ⟨z,_,rfl⟩:=Xs.1 L;rw [XF.1 D];rfl) (fun h=>by cases h) (by rw [T];exact hnc)
    (fun _=>by rw [P3 (by omega)];simp) (by simp) (fun j u hj=>?_) (fun j y u D hu=>?_)
   ·rw [T] at U;exact U
   ·have A:=q.cells (g:=g) rfl j u hj;have W:(⟨g,0,Xe⟩:Addr).add j=⟨g,0+j,Xe⟩:=by unfold Addr.add;split<;>simp_all
    rw [W] at A;exact A
   ·rw [aj,Xp] at D;rw [Xp] at hu
    cases hzj:zs[j]? with
    | none => rw [hzj] at D; cases D
    | some z =>
     rw [hzj] at D hu
     cases D
     cases hu
     exact .val rfl
def Zuu (A:Nat→List V→Prop) (n:Nat) (B:List V→Prop):Nat→List V→Prop:=fun i vs=>if i=n then B vs else A i vs
def STree.wp (P:Program) (R:AV→List AV→Prop):STree→(Nat→List V→Prop)→(Nat→V)→Prop
 | .stuck _, _, _ => False
 | .branch b t e, A, ρ => (b.den ρ = Xc → t.wp P R A ρ) ∧ (b.den ρ = Xb → e.wp P R A ρ)
 | .req p t, A, ρ => p.den ρ ∧ t.wp P R A ρ
 | .elem l i sh n t, A, ρ => ∃ vs, 0 ≤ i.den ρ ∧ (l.den ρ)[(i.den ρ).toNat]? = Xa ((Z9 sh n).map (SC.den (bind ρ n vs))) ∧ t.wp P R A (bind ρ n vs)
 | .nilq l n t, A, ρ => ∀ b : Bool, (b = Xc → l.den ρ = []) → t.wp P R A (bind ρ n [.b b])
 | .call f args res outs n _ t, A, ρ => ∃ vs, J2 P f (args.map (SV.den ρ)) (res.den (bind ρ n vs)) (outs.map (SV.den (bind ρ n vs))) ∧ t.wp P R A (bind ρ n vs)
 | .loop lv init n t, A, ρ => ∃ (I : List V → Prop) (m : List V → Nat), I (init.map (VE.den ρ)) ∧
   ∀ vs,vs.length=init.length→I vs→t.wp P R (Zuu A lv fun a=>I a∧m a < m vs) (bind ZfZ n vs)
 | .again lv vals, A, ρ => A lv (vals.map (VE.den ρ))
 | .ret res outs, _, ρ => R (res.den ρ) (outs.map (SV.den ρ))
def YL:List Sh→List Value→Prop
 | [], [] => True
 | .int k :: L, .int k' _ :: us => k = k' ∧ YL L us
 | .bool :: L, .bool _ :: us => YL L us
 | _, _ => False
def eqV:List Value→List Value→Bool
 | .int _ a :: us, .int _ b :: vs => (a == b) && eqV us vs
 | .bool a :: us, .bool b :: vs => (a == b) && eqV us vs
 | _, _ => Xc
def VZ (P:Program) (a:List TypeId):Prop:=
 ∀ T∈a,P.eqGuardType P.depth T=Xb∧∀ L,Kp P 8 T=Xa L→∀ (us vs:List Value),YL L us→YL L vs→∀ w,
  (Op.equalIn 10000 T (.agg us.toArray) (.agg vs.toArray)).run P w = .ok (eqV us vs) w
def EnvSound (P:Program) (E:Env):Prop:=VZ P E.plain∧Vz P E.ks
def Zh3 {P:Program} {R:AV→List AV→Prop} {A:Nat→List V→Prop} {ρ:Nat→V} {b:BE} {t e:STree} (h:(Zfd b t e).wp P R A ρ) :
  (b.den ρ=Xc→t.wp P R A ρ)∧(b.den ρ=Xb→e.wp P R A ρ):=by
 unfold Zfd at h;split at h
 ·exact ⟨fun _=>h,fun a=>by simp [BE.den] at a⟩
 ·exact ⟨fun a=>by simp [BE.den] at a,fun _=>h⟩
 ·exact h
def ZmQ (b:BE) (ρ:Nat→V):(Zlk b).den ρ = !b.den ρ:=by unfold Zlk;split<;>rfl
def Zo4 {b:BE} {n:Nat} (h:b.bd n):(Zlk b).bd n:=by
 unfold Zlk;split
 ·trivial
 ·exact h
def Zhv {v:Value} (ρ:Nat→V):(ofC v).map (SC.den ρ)=Zs4 v:=by
 cases v with
 | slice a l c => cases a <;> cases l <;> cases c <;> rfl
 | _ => rfl
def KD (ρ:Nat→V):∀ (vs:List Value),(ZfX vs).map (List.map (SC.den ρ))=ZaL vs
 | [] => rfl
 | v :: vs => by
  have a:=Zhv (v:=v) ρ;have b:=KD ρ vs;simp only [ZfX,ZaL]
  cases hc:ofC v<;>cases hcs:ZfX vs<;>rw [hc] at a<;>rw [hcs] at b<;>simp at a b<;>rw [← a]<;>try rw [← b]
  ·simp
  ·simp
  ·simp
  ·simp
def Zp2 {v:Value} {c:SC} {n:Nat} (h:ofC v=Xa c):c.bd n:=by
 unfold ofC at h;split at h<;>simp at h<;>subst h<;>trivial
def VK {n:Nat} : ∀ {vs:List Value} {cs:List SC},ZfX vs=Xa cs→∀ c∈cs,c.bd n
 | [], cs, h => by simp [ZfX] at h; subst h; simp
 | v :: vs, cs, h => by
  simp only [ZfX] at h;split at h
  ·rename_i c d e a;simp at h;subst h;intro x b;rcases Xr.1 b with rfl | b
   ·exact Zp2 e
   ·exact VK a x b
  ·simp at h
def ZrC (v:Value) (ρ:Nat→V):(ofV v).den ρ=ZqP v:=by
 cases v with
 | agg cs =>
  have:=KD ρ cs.toList;simp only [ofV,ZqP];rw [← this]
  cases ZfX cs.toList<;>rfl
 | slice a l c =>
  have:=Zhv (v:=.slice a l c) ρ;simp only [ofV,ZqP];rw [← this]
  cases ofC (.slice a l c)<;>rfl
 | _ => rfl
def ZuZ (v:Value) (n:Nat):(ofV v).bd n:=by
 unfold ofV;split
 ·split
  ·rename_i l a;exact VK a
  ·trivial
 ·split
  ·rename_i c b;exact Zp2 (v:=v) b
  ·trivial
def YF (P:Program) (g:Nat→SV) (ρ:Nat→V) (x:Operand):(JF P g x).den ρ=getS P (fun d=>(g d).den ρ) x:=by
 cases x with
 | tmp t =>
  simp only [JF,getS]
  cases g t with
  | c x => cases x <;> rfl
  | own x e xs => cases x <;> rfl
  | _ => rfl
 | const v => exact ZrC v ρ
 | global g => rfl
 | func f => rfl
def ZM {P:Program} {g:Nat→SV} {n:Nat} (a:∀ d,(g d).bd n) (x:Operand):(JF P g x).bd n:=by
 cases x with
 | tmp t =>
  have:=a t;simp only [JF]
  cases hs:g t with
  | own x e xs => rw [hs] at this; cases x <;> first | exact this | trivial
  | _ => rw [hs] at this; first | exact this | trivial
 | const v => exact ZuZ v n
 | global g => trivial
 | func f => trivial
def Zm {P:Program} {g:Nat→SV} {x:Operand} {y:SV} (ρ:Nat→V) (h:JF P g x=y):getS P (fun d=>(g d).den ρ) x=y.den ρ:=by rw [← YF,h]
def Kr (tx:Odr) (P:Program) (R:AV→List AV→Prop) (A:Nat→List V→Prop) (ρ:Nat→V) (g:Nat→SV) (o:Oper) (n:Nat) (k:K):Prop:=
 ∃ a b x us c,n≤b∧(∀ m,m < n→a m=ρ m)∧x.bd b∧(∀ u∈us,u.2.bd b)∧(k x us c b).wp P R A a∧
  Vr tx P o (fun d=>(g d).den ρ) (x.den a) (us.map fun u=>(u.1,u.2.den a)) c
section
variable {tx:Odr} {P:Program} {R:AV→List AV→Prop} {A:Nat→List V→Prop} {ρ:Nat→V} {g:Nat→SV} {o:Oper} {n:Nat} {k:K}
def Zb7 {x:SV} {us:Ups} {a:List Nat} (e:(k x us a n).wp P R A ρ) (f:x.bd n) (b:∀ u∈us,u.2.bd n)
  (c:J3 P o (fun d=>(g d).den ρ) (x.den ρ) (us.map fun u=>(u.1,u.2.den ρ)) a):Kr tx P R A ρ g o n k:=
 ⟨ρ,n,x,us,a,Xt _,fun _ _=>rfl,f,b,e,c.t⟩
def ZcK {x:SV} {us:Ups} {a:List Nat} (e:(k x us a n).wp P R A ρ) (f:x.bd n) (b:∀ u∈us,u.2.bd n)
  (c:Vr tx P o (fun d=>(g d).den ρ) (x.den ρ) (us.map fun u=>(u.1,u.2.den ρ)) a):Kr tx P R A ρ g o n k:=
 ⟨ρ,n,x,us,a,Xt _,fun _ _=>rfl,f,b,e,c⟩
def Z7 {x:SV} {b:List Nat} (c:(k x [] b n).wp P R A ρ) (e:x.bd n) (a:J3 P o (fun d=>(g d).den ρ) (x.den ρ) [] b):Kr tx P R A ρ g o n k:=
 Zb7 c e (by simp) a
def ZeY (ρ:Nat→V):SC→Value
 | .int k e => .int k (e.den ρ)
 | .bool b => .bool (b.den ρ)
 | .str s => .string (s.den ρ)
 | .slice _ _ _ => .slice Xe 0 0
def ZcR (ρ:Nat→V):∀ (L:List Sh) (cs:List SC),Wv L cs=Xc→YL L (cs.map (ZeY ρ))∧cs.map (SC.den ρ)=(cs.map (ZeY ρ)).map AV.val∧∀ u∈cs.map (ZeY ρ),Zdn u=Xc
 | [], [], _ => ⟨trivial, rfl, by simp⟩
 | [], _ :: _, h => by simp [Wv] at h
 | _ :: _, [], h => by simp [Wv] at h
 | s :: L, c :: cs, h => by
  simp only [Wv,Xk] at h;obtain ⟨b,d,e⟩:=ZcR ρ L cs h.2;have f:=h.1
  cases s<;>cases c<;>simp [Zqi] at f
  ·refine ⟨⟨f,b⟩,by simp only [Xn,d];rfl,?_⟩;intro u a;rw [Xn] at a;rcases Xr.1 a with rfl | a
   ·rfl
   ·exact e u a
  ·refine ⟨b,by simp only [Xn,d];rfl,?_⟩;intro u a;rw [Xn] at a;rcases Xr.1 a with rfl | a
   ·rfl
   ·exact e u a
def Zcu (ρ:Nat→V):∀ (xs d:List SC) (e:BE),Zbn xs d=Xa e→e.den ρ=eqV (xs.map (ZeY ρ)) (d.map (ZeY ρ))
 | [], [], e, h => by simp [Zbn] at h; subst h; rfl
 | [], _ :: _, e, h => by simp [Zbn] at h
 | _ :: _, [], e, h => by simp [Zbn] at h
 | a :: aZ, b :: bs, e, h => by
  simp only [Zbn] at h;split at h
  ·rename_i x y c f;simp at h;subst h;have ih:=Zcu ρ aZ bs y f
   cases a<;>cases b<;>simp [ZlA] at c
   ·obtain ⟨_,rfl⟩:=c;simp only [BE.den,Xn,ZeY,eqV,ih,P0]
   ·subst c;simp only [BE.den,Xn,ZeY,eqV,ih]
  ·simp at h
def Zjw {n:Nat} : ∀ (xs j:List SC) (e:BE),(∀ c∈xs,c.bd n)→(∀ c∈j,c.bd n)→Zbn xs j=Xa e→e.bd n
 | [], [], e, _, _, h => by simp [Zbn] at h; subst h; trivial
 | [], _ :: _, e, _, _, h => by simp [Zbn] at h
 | _ :: _, [], e, _, _, h => by simp [Zbn] at h
 | a :: aZ, b :: bs, e, hx, hy, h => by
  simp only [Zbn] at h;split at h
  ·rename_i x y d f;simp at h;subst h;have ih:=Zjw aZ bs y (fun c i=>hx c (by simp [i])) (fun c i=>hy c (by simp [i])) f;have l:=hx a (by simp);have m:=hy b (by simp)
   cases a<;>cases b<;>simp [ZlA] at d
   ·obtain ⟨_,rfl⟩:=d;exact ⟨⟨l,m⟩,ih⟩
   ·subst d;exact ⟨⟨l,m⟩,ih⟩
  ·simp at h
def Zjh {w:World} {lim:Nat→Nat} {us:List Value} {v:Value} (h:Rep w lim (.agg (us.map AV.val)) v):v = .agg us.toArray:=by
 have c:∀ y,Rep w lim y v→y = .agg (us.map AV.val)→v = .agg us.toArray:=by
  intro y d a
  cases d with
  | @agg cs vs hl hc hr =>
   injection a with a;subst a;have b:us.length=vs.length:=by simpa using hl
   have:vs=us:=by
    apply List.ext_getElem b.symm;intro i e f;exact VQ (hr i (.val us[i]) vs[i] (by simp [f]) (by simp [e]))
   rw [this]
  | val _ => cases a
  | sliceN => cases a
  | sliceE _ => cases a
  | sliceC _ _ _ _ _ _ _ _ => cases a
 exact c _ h rfl
def ZcD {T T':TypeId} {x y:Operand} {op:BinOp} {us vs:List Value} {σ:Nat→AV} {L:List Sh} {a:List TypeId} (d:VZ P a) (q:T∈a) (r:Kp P 8 T=Xa L) (e:o.op = .binOp op T x y T')
  (f:op = .eql∨op = .neq) (s:getS P σ x = .agg (us.map AV.val)) (t:getS P σ y = .agg (vs.map AV.val)) (u:YL L us) (v:YL L vs) :
  J3 P o σ (.val (.bool (if op = .eql then eqV us vs else !eqV us vs))) [] []:=by
 refine ZD [] rfl fun c i z E w lim X h C b=>⟨.bool (if op = .eql then eqV us vs else !eqV us vs),?_,.val rfl⟩;rw [e] at h;have j:=Zjh (YU i b s (h x (by simp [Op.operands])));have l:=Zjh (YU i b t (h y (by simp [Op.operands])));obtain ⟨m,D⟩:=d T q;have p:=D L r us vs u v w;rcases f with rfl | rfl
 ·simp only [execOp,e,j,l,Sem.run_bind,run_eqGuard_agg w .eql T x y us.toArray vs.toArray m,Result.andThen_ok,run_eql_struct,p];simp
 ·simp only [execOp,e,j,l,Sem.run_bind,run_eqGuard_agg w .neq T x y us.toArray vs.toArray m,Result.andThen_ok,run_neq_struct,p];simp
def Zna {j:List TypeId} {op:BinOp} {T T':TypeId} {u w:Operand} (z:VZ P j) (Q:∀ d,(g d).bd n) (m:o.op = .binOp op T u w T')
  (h:(bin P j op T (JF P g u) (JF P g w) fun v=>k v [] [] n).wp P R A ρ):Kr tx P R A ρ g o n k:=by
 have p:=ZM (P:=P) Q u;have q:=ZM (P:=P) Q w;generalize hx:JF P g u=x at h p;generalize hy:JF P g w=y at h q;have r:=Zm ρ hx;have s:=Zm ρ hy;unfold bin at h;split at h
 ·rename_i M a S b
  have l:∀ (i:IOp),M=S→ZsL op=Xa i→(i = .quo∨i = .rem→b.den ρ≠0)→(k (.c (.int M (.bin i M a b))) [] [] n).wp P R A ρ→Kr tx P R A ρ g o n k:=by
   intro i f N X t;subst f;exact Z7 t ⟨p,q⟩ (ZpC m N r s X)
  have comp:∀ (i:COp),M=S→ZqD op=Xa i→(k (.c (.bool (.cmp i a b))) [] [] n).wp P R A ρ→Kr tx P R A ρ g o n k:=by
   intro i f N t;subst f;exact Z7 t ⟨p,q⟩ (Zou m N r s)
  split at h
  ·exact Z7 h.2 ⟨p,q⟩ (ZdF m (.inl ⟨rfl,rfl⟩) r s h.1)
  ·exact Z7 h.2 ⟨p,q⟩ (ZdF m (.inr ⟨rfl,rfl⟩) r s h.1)
  ·split at h
   ·rename_i f
    split at h<;>first
     | exact h.elim
     | exact l _ f rfl (by simp) h
     | exact l _ f rfl (fun _ => h.1) h.2
     | exact comp _ f rfl h
   ·exact h.elim
 ·rename_i a b;split at h
  ·exact Z7 h ⟨p,q⟩ (ZjE (op:=.eql) m (.inl rfl) r s)
  ·exact Z7 h ⟨p,q⟩ (ZjE (op:=.neq) m (.inr rfl) r s)
  ·exact h.elim
 ·rename_i a b;split at h
  ·rename_i C;split at h
   ·exact Z7 h ⟨p,q⟩ (Zf0 (op:=.eql) m C (.inl rfl) r s)
   ·exact Z7 h ⟨p,q⟩ (Zf0 (op:=.neq) m C (.inr rfl) r s)
   ·exact h.elim
  ·exact h.elim
 ·rename_i xs D;split at h
  ·rename_i e E O;simp only [Zlt,Xk,List.contains_iff_mem] at E;obtain ⟨C,f⟩:=E
   cases hL:Kp P 8 T with
   | none => simp [hL] at f
   | some L =>
    rw [hL] at f;simp only [Xk] at f;obtain ⟨U,Y,u3⟩:=ZcR ρ L xs f.1;obtain ⟨W,Z,v3⟩:=ZcR ρ L D f.2;have G:=Zjw xs D e p q O;have H:getS P (fun d=>(g d).den ρ) u = .agg ((xs.map (ZeY ρ)).map AV.val):=by rw [r,← Y];rfl
    have J:getS P (fun d=>(g d).den ρ) w = .agg ((D.map (ZeY ρ)).map AV.val):=by rw [s,← Z];rfl
    split at h
    ·refine Z7 h G ?_;have:=ZcD (o:=o) (op:=.eql) z C hL m (.inl rfl) H J U W;rw [P4 rfl,← Zcu ρ xs D e O] at this;exact this
    ·refine Z7 h G ?_;have:=ZcD (o:=o) (op:=.neq) z C hL m (.inr rfl) H J U W;rw [P3 (by simp),← Zcu ρ xs D e O] at this;exact this
    ·exact h.elim
  ·exact h.elim
 ·exact h.elim
end
def Zkj (ρ:Nat→V) (c:SC):(c.den ρ).isCell=Xc:=by cases c<;>rfl
def Zas {x:SV} {cs:List SC} (ρ:Nat→V) (h:x.cells=Xa cs):(x.den ρ).cells? = Xa (cs.map (SC.den ρ)):=by
 cases x with
 | c y =>
  simp only [SV.cells,Xf] at h;subst h
  cases y<;>rfl
 | agg ds =>
  simp only [SV.cells,Xf] at h;subst h;rfl
 | _ => simp [SV.cells] at h
def ZbE {x:SV} {cs:List SC} {n:Nat} (h:x.cells=Xa cs) (a:x.bd n):∀ c∈cs,c.bd n:=by
 cases x with
 | c y =>
  simp only [SV.cells,Xf] at h;subst h;intro c b;simp at b;subst b;exact a
 | agg ds =>
  simp only [SV.cells,Xf] at h;subst h;exact a
 | _ => simp [SV.cells] at h
def Zcj (ρ:Nat→V) (place:Nat→Option (Nat×Nat)):∀ (a:List (Nat×SV)) (b c:List SC),Zfl place b a=Xa c→
  ZbY place (b.map (SC.den ρ)) (a.map fun p=>(p.1,p.2.den ρ))=Xa (c.map (SC.den ρ))
 | [], b, c, h => by simp only [Zfl, Xf] at h; subst h; rfl
 | (i, v) :: a, b, c, h => by
  simp only [Zfl] at h;split at h
  ·rename_i off d vc e f;split at h
   ·rename_i g;have ih:=Zcj ρ place a _ c h;simp only [Us,Um,Uq] at ih;simp only [Xn,ZbY,e,Zas ρ f];rw [P4 (by simpa using g)];exact ih
   ·cases h
  ·cases h
def Zeu {n:Nat} (place:Nat→Option (Nat×Nat)):∀ (a:List (Nat×SV)) (b d:List SC),(∀ c∈b,c.bd n)→(∀ p∈a,p.2.bd n)→Zfl place b a=Xa d→∀ c∈d,c.bd n
 | [], b, d, hc, _, h => by simp only [Zfl, Xf] at h; subst h; exact hc
 | (i, v) :: a, b, d, hc, hp, h => by
  simp only [Zfl] at h;split at h
  ·rename_i off g vc j k;split at h
   ·refine Zeu place a _ d (fun c e=>?_) (fun p f=>hp p (by simp [f])) h;rcases Xq.1 e with h1 | h1
    ·rcases Xq.1 h1 with h1 | h1
     ·exact hc c (XL h1)
     ·exact ZbE k (hp (i,v) (by simp)) c h1
    ·exact hc c (XR h1)
   ·cases h
  ·cases h
def Zaq (ρ:Nat→V):∀ (cs:List SC),(ZkE cs).den ρ=cs.map (SC.den ρ)
 | [] => rfl
 | c :: cs => by simp only [ZkE, CE.den, Zaq ρ cs, Xn]
def Zc3 {n:Nat} : ∀ (cs:List SC),(∀ c∈cs,c.bd n)→(ZkE cs).bd n
 | [], _ => trivial
 | c :: cs, h => ⟨h c (by simp), Zc3 cs fun x a => h x (by simp [a])⟩
def Zlx (ρ:Nat→V) (a:Nat) (cs:List SC):∀ (n:Nat),(lOf a cs n).den ρ=WP a (cs.map (SC.den ρ)) n
 | 0 => rfl
 | n + 1 => by
  simp only [lOf,LE.den,Zlx ρ a cs n,Zaq,WP,List.range_succ,Us,Xn,X5,Um,Uq]
def Zqh {m:Nat} (a:Nat) (cs:List SC) (h:∀ c∈cs,c.bd m):∀ (n:Nat),(lOf a cs n).bd m
 | 0 => trivial
 | n + 1 => ⟨Zqh a cs h n, Zc3 _ fun c b => h c (XR (XL b))⟩
def ZdV (P:Program) (ρ:Nat→V) (b:BC):(ZdP P b).den ρ=Yu P (b.den ρ):=by
 cases b with
 | c x => cases x <;> rfl
 | own x e l => rfl
 | gone => rfl
def ZcF {cs:List BC} (h:Wi cs=Xc) (ρ:Nat→V):ZcG (cs.map (BC.den ρ)):=by
 intro c d e xs a;obtain ⟨b,f,rfl⟩:=Xs.1 d;unfold Wi at h;rw [XE] at h;have:=h b f
 cases b with
 | c x => cases x <;> cases a
 | own x e l =>
  cases x with
  | false => cases a
  | true => cases this
 | gone => cases a
def Zg9 {cs:List BC} (h:Zbe cs=Xc) (ρ:Nat→V):Whole (cs.map (BC.den ρ)):=by
 intro c d a;obtain ⟨b,f,rfl⟩:=Xs.1 d;unfold Zbe at h;rw [XE] at h;have:=h b f
 cases b with
 | c x => cases x <;> cases a
 | own x e l => cases a
 | gone => cases this
def Zlc {P:Program} {n:Nat} {b:BC} (h:b.bd n):(ZdP P b).bd n:=by
 cases b<;>exact h
def Zpz {P:Program} {T:TypeId} {cs:List BC} (ρ:Nat→V) (n:Nat) (h:Zrw P T=Xa cs) :
  ∃ i z,P.info? T=Xa i∧i.zero=Xa z∧Zp8 (cs.map (BC.den ρ)) z.cells.toList∧∀ c∈cs,c.bd n:=by
 unfold Zrw at h;split at h
 ·rename_i i G;split at h
  ·rename_i z H;split at h
   ·rename_i t k;split at h
    ·rename_i o;simp only [Xf] at h;subst h
     have J:t.length=z.cells.toList.length:=by
      have a:=KD ρ z.cells.toList;rw [k] at a;have b:=(Zan (w:=default) (lim:=fun _=>0) a.symm).1;simpa using b
     refine ⟨i,z,G,H,⟨by simp [o,J],fun j x u g L=>?_⟩,fun c p=>?_⟩
     ·rw [Xp,List.getElem?_zipWith] at g
      cases a:(Kc P 8 T)[j]? with
      | none => simp [a] at g
      | some e =>
       cases b:t[j]? with
       | none => simp [a, b] at g
       | some c =>
        simp only [a,b,XA,Xf] at g
        have d:ofC u=Xa c:=by
         have y:∀ (vs:List Value) (cs:List SC) (j:Nat),ZfX vs=Xa cs→cs[j]? = Xa c→vs[j]? = Xa u→ofC u=Xa c:=by
          intro vs
          induction vs with
          | nil => intro cs j _ _ h; simp at h
          | cons v vs ih =>
           intro cs j h p A;simp only [ZfX] at h;split at h
           ·rename_i C D E q;simp only [Xf] at h;subst h
            cases j with
            | zero => simp at p A; subst p; subst A; exact E
            | succ j => exact ih D j q (by simpa using p) (by simpa using A)
           ·cases h
         exact y _ _ j k b L
        have m:(∃ e',Zbx e c = .own Xb e' .nil∧u = .slice Xe 0 0)∨Zbx e c = .c c:=by
         cases e with
         | none => right; cases c <;> rfl
         | some e =>
          cases c with
          | slice f s l =>
           cases f with
           | false => right; cases l <;> rfl
           | true =>
            cases l with
            | nil =>
             left;refine ⟨e,rfl,?_⟩;unfold ofC at d;split at d<;>simp at d;rfl
            | _ => right; rfl
          | _ => right; rfl
        rcases m with ⟨e',h3,h4⟩ | h3
        ·rw [h3] at g;exact .inr ⟨_,e',g.symm,h4⟩
        ·rw [h3] at g;left;rw [← Zhv ρ,d,← g];rfl
     ·obtain ⟨j,r⟩:=X6.1 p;rw [List.getElem?_zipWith] at r
      cases a:(Kc P 8 T)[j]? with
      | none => simp [a] at r
      | some e =>
       cases b:t[j]? with
       | none => simp [a, b] at r
       | some C =>
        simp only [a,b,Xf] at r;subst r;have M:C.bd n:=VK k C (Xo b);unfold Zbx;split
        ·trivial
        ·exact M
    ·cases h
   ·cases h
  ·cases h
 ·cases h
def ZjN (s:Sh) (n:Nat):(YT s n).bd (n+1):=by cases s<;>exact Ul n
def Yb:∀ (l:List Sh) (n:Nat),∀ c∈Z9 l n,c.bd (n+l.length)
 | [], n, c, h => by simp [Z9] at h
 | s :: ss, n, c, h => by
  rcases Xr.1 h with rfl | h
  ·exact SC.bd_mono (by simp) _ (ZjN s n)
  ·have:=Yb ss (n+1) c h;exact SC.bd_mono (by simp only [XO];omega) _ this
def ZoM (s:Sh) (n:Nat):(Zrc s n).bd (n+1):=by cases s<;>exact Ul n
def Yc:∀ (l:List Sh) (n:Nat),∀ c∈KI l n,c.bd (n+l.length)
 | [], n, c, h => by simp [KI] at h
 | s :: ss, n, c, h => by
  rcases Xr.1 h with rfl | h
  ·exact BC.bd_mono (by simp) _ (ZoM s n)
  ·have:=Yc ss (n+1) c h;exact BC.bd_mono (by simp only [XO];omega) _ this
def Kk:∀ (b:List SV) (n:Nat),n≤(JB b n).2.2
 | [], n => Xt n
 | a :: b, n => by
  cases a with
  | box cs =>
   simp only [JB];exact XN (Tq _ _) (Kk b _)
  | gbox cs =>
   simp only [JB];exact XN (Tq _ _) (Kk b _)
  | _ => exact Kk b n
def Zdt:∀ (b:List SV) (n:Nat),(JB b n).1.length=b.length
 | [], n => rfl
 | a :: b, n => by
  cases a<;>simp only [JB,XO,Zdt b]
def Zac:∀ (b:List SV) (n:Nat),∀ x∈(JB b n).1,x.bd (JB b n).2.2
 | [], n, x, h => by simp [JB] at h
 | a :: b, n, x, h => by
  cases a with
  | box cs =>
   simp only [JB] at h ⊢;rcases Xr.1 h with rfl | h
   ·intro c d;have e:=Yc (cs.map Zps) n c d;exact BC.bd_mono (Kk b _) _ e
   ·exact Zac b _ x h
  | gbox cs =>
   simp only [JB] at h ⊢;rcases Xr.1 h with rfl | h
   ·intro c d;have e:=Yc (cs.map Zps) n c d;exact BC.bd_mono (Kk b _) _ e
   ·exact Zac b _ x h
  | _ =>
   simp only [JB] at h ⊢;rcases Xr.1 h with rfl | h
   ·trivial
   ·exact Zac b _ x h
def V2:∀ (c:List SV) (n i:Nat) (b:Bool) (cs:List BC) (y:SV),c[i]? = Xa (ZnR b cs)→(JB c n).1[i]? = Xa y→∃ d,y=ZnR b d
 | [], n, i, b, cs, y, h, _ => by simp at h
 | a :: c, n, i, b, cs, y, h, h' => by
  cases i with
  | zero =>
   simp only [XM,Xf] at h;subst h
   cases b with
   | false =>
    simp only [ZnR,JB,XM,Xf] at h';exact ⟨_,h'.symm⟩
   | true =>
    simp only [ZnR,JB,XM,Xf] at h';exact ⟨_,h'.symm⟩
  | succ i =>
   have e:c[i]? = Xa (ZnR b cs):=by simpa using h
   cases a with
   | box ds => simp only [JB, Uv] at h'; exact V2 c _ i b cs y e h'
   | gbox ds => simp only [JB, Uv] at h'; exact V2 c _ i b cs y e h'
   | _ => simp only [JB, Uv] at h'; exact V2 c _ i b cs y e h'
def ZnX (r:RSh) (n:Nat):(ZsK r n).1.bd (n+(ZsK r n).2.length):=by
 cases r with
 | c s => cases s <;> exact Ul n
 | agg l => exact Yb l n
 | box l => exact Yb l n
def WI {P:Program} {a:Nat} : ∀ (Ts:List TypeId) (n:Nat) (vs:List TC) (sh:List Sh) (b:Nat),Zai P a Ts n=Xa (vs,sh,b)→n≤b∧∀ v∈vs,v.bd b∧v≠.gone
 | [], n, vs, sh, b, h => by
  simp only [Zai,Xf,Xw] at h;obtain ⟨rfl,rfl,rfl⟩:=h;exact ⟨Xt _,by simp⟩
 | T :: Ts, n, vs, sh, b, h => by
  simp only [Zai] at h;split at h
  ·rename_i r k;split at h
   ·rename_i d e m g;simp only [Xf,Xw] at h;obtain ⟨rfl,rfl,rfl⟩:=h;obtain ⟨i,j⟩:=WI Ts _ d e m g;refine ⟨by omega,fun v f=>?_⟩;rcases Xr.1 f with rfl | f
    ·exact ⟨TC.bd_mono i _ (ZnX r n),by cases r with | c s=>cases s<;>exact fun h=>(by cases h) | agg l=>exact fun h=>(by cases h) | box l=>exact fun h=>(by cases h)⟩
    ·exact j v f
   ·cases h
  ·cases h
def Zek (ρ:Nat→V) (x:TC):(Zxh x).den ρ=x.den ρ:=by cases x<;>rfl
def ZqL {n:Nat} {x:TC} (h:x.bd n):(Zxh x).bd n:=by cases x<;>exact h
def ZlO (ρ:Nat→V) (x:TC) (a:x≠.gone):ZgG (x.den ρ):=by
 cases x with
 | c y => cases y <;> first | exact .inl (.inl ⟨_, rfl⟩) | exact .inl (.inr (.inr ⟨_, _, _, rfl⟩))
 | agg cs => exact .inl (.inr (.inl ⟨_, rfl⟩))
 | own x e l => exact .inr (.inl ⟨_, _, _, rfl⟩)
 | gone => exact (a rfl).elim
def Zhz {P:Program} {a:Nat} {Ts:List TypeId} {n d:Nat} {res:SV} {sh:List Sh} (h:Zfw P a Ts n=Xa (res,sh,d)) :
  n≤d∧res.bd d∧∀ ρ,ZgG (res.den ρ):=by
 unfold Zfw at h;split at h
 ·rename_i x b m e;simp only [Xf,Xw] at h;obtain ⟨rfl,rfl,rfl⟩:=h;obtain ⟨f,c⟩:=WI Ts n [x] b m e;exact ⟨f,ZqL (c x (by simp)).1,fun ρ=>by rw [Zek];exact ZlO ρ x (c x (by simp)).2⟩
 ·rename_i vs b m _ e;simp only [Xf,Xw] at h;obtain ⟨rfl,rfl,rfl⟩:=h;obtain ⟨f,c⟩:=WI Ts n vs b m e;exact ⟨f,fun v g=>(c v g).1,fun ρ=>.inr (.inr (.inl ⟨_,rfl⟩))⟩
 ·cases h
def ZjG {P:Program} {E:Env} {f:FuncId} {Ts:List TypeId} {n a:Nat} {res:SV} {sh:List Sh} (h:Zic P E f Ts n=Xa (res,sh,a)) :
  n≤a∧res.bd a∧∀ ρ,ZgG (res.den ρ):=by
 unfold Zic at h;split at h
 ·rename_i l _;simp only [Xf,Xw] at h;obtain ⟨rfl,rfl,rfl⟩:=h;exact ⟨Tq _ _,Yc l n,fun ρ=>.inr (.inr (.inr ⟨_,rfl⟩))⟩
 ·exact Zhz h
def SAK.den (ρ:Nat→V):SAK→AK
 | .imm x => .imm (x.den ρ)
 | .own t x e l => .own t x e (l.den ρ)
 | .box d fr to cs => .box d fr to (cs.map (BC.den ρ))
 | .clo g ds gs => .clo g ds gs
 | .ref t d q j => .ref t d q j
 | .pad => .pad
def Zby (ρ:Nat→V) (a:Bool) (cs:List BC):(ZnR a cs).den ρ=mkB a (cs.map (BC.den ρ)):=by cases a<;>rfl
def Zqu (ρ:Nat→V) (a:SAK):(a.den ρ).av=a.sv.den ρ:=by
 cases a with
 | box d fr to cs => exact (Zby ρ to cs).symm
 | _ => rfl
def Zbt (ρ:Nat→V) (a:SAK):(a.den ρ).slot=a.slot:=by cases a<;>rfl
def Zkz {x:SV} {ρ:Nat→V} {b:Bool} {e:TypeId} {a:List (List AV)} (h:x.den ρ = .own b e a):∃ l,x = .own b e l:=by
 cases x with
 | own b' e' l => simp only [SV.den, AV.own.injEq] at h; obtain ⟨rfl, rfl, _⟩ := h; exact ⟨l, rfl⟩
 | c y => cases y <;> cases h
 | _ => cases h
def ZhU {x:SV} {ρ:Nat→V} {d q:Nat} (h:x.den ρ = .mref d q):x = .mref d q:=by
 cases x with
 | mref d' q' => simp only [SV.den, AV.mref.injEq] at h; obtain ⟨rfl, rfl⟩ := h; rfl
 | c y => cases y <;> cases h
 | _ => cases h
def ZfN {x:SV} {k:Nat} {e:TypeId} {l:LE} (ρ:Nat→V) (h:JD x k=Xa (e,l)):Zy (x.den ρ) k=Xa (e,l.den ρ):=by
 unfold JD at h;split at h
 ·simp only [Xf,Xw] at h;obtain ⟨rfl,rfl⟩:=h;rfl
 ·rename_i cs q;split at h
  ·rename_i e' b a;simp only [Xf,Xw] at h;obtain ⟨rfl,rfl⟩:=h;simp only [SV.den,Zy,Xp,a];rfl
  ·cases h
 ·rename_i cs q;split at h
  ·rename_i e' b a;simp only [Xf,Xw] at h;obtain ⟨rfl,rfl⟩:=h;simp only [SV.den,Zy,Xp,a];rfl
  ·cases h
 ·cases h
def Zoq {P:Program} {g:Nat→SV} {x:Operand} {a:SAK} (ρ:Nat→V) (h:Zq2 P g x=Xa a):(a.den ρ).ok P (fun d=>(g d).den ρ) (.op x)∧a.sv.isG=Xb∧∀ h ds n,a = .clo h ds n→n = []:=by
 unfold Zq2 at h;split at h
 ·rename_i t b e l o p;simp only [Xf] at h;subst h;have i:x = .tmp t:=by cases x<;>simp [Z8] at o;rw [o]
  subst i;simp only [Z8,XA,Xf] at p;exact ⟨⟨rfl,by show (g t).den ρ=_;rw [p];rfl⟩,rfl,fun _ _ _ h=>by cases h⟩
 ·rename_i j;split at h
  ·rename_i v c;simp only [Xf] at h;subst h;refine ⟨.inl ⟨Zm ρ c,?_⟩,rfl,fun _ _ _ h=>by cases h⟩
   cases v<;>first | exact .inl ⟨_,rfl⟩ | exact .inr (.inr ⟨_,_,_,rfl⟩)
  ·rename_i cs c;simp only [Xf] at h;subst h;exact ⟨.inl ⟨Zm ρ c,.inr (.inl ⟨_,rfl⟩)⟩,rfl,fun _ _ _ h=>by cases h⟩
  ·rename_i d c;split at h
   ·rename_i cs k;split at h
    ·simp only [Xf] at h;subst h;exact ⟨⟨Zm ρ c,by show (g d).den ρ=_;rw [k];rfl,rfl,rfl⟩,rfl,fun _ _ _ h=>by cases h⟩
    ·cases h
   ·cases h
  ·rename_i f ds c;simp only [Xf] at h;subst h;exact ⟨Zm ρ c,rfl,fun _ _ _ h=>by cases h;rfl⟩
  ·rename_i d q c;split at h
   ·rename_i e l r;split at h
    ·rename_i s;simp only [Xf] at h;subst h;refine ⟨.inr ⟨d,q,e,l.den ρ,⟨Zm ρ c,fun t e' y i u=>?_⟩,ZfN ρ r,⟨by omega,s.2⟩,rfl⟩,rfl,fun _ _ _ h=>by cases h⟩;obtain ⟨w,m⟩:=Zkz (show (g t).den ρ=_ from u);subst i;exact j t Xc e' w rfl (by simp only [Z8,XA,m])
    ·cases h
   ·cases h
  ·cases h
def Vm (P:Program) (g:Nat→SV) (ρ:Nat→V) (xs:List Zbq) (b:List SAK):Prop:=
 xs.length=b.length∧∀ (i:Nat) (x:Zbq) (a:SAK),xs[i]? = Xa x→b[i]? = Xa a→(a.den ρ).ok P (fun d=>(g d).den ρ) x
def Vm.append {P:Program} {g:Nat→SV} {ρ:Nat→V} {xs d:List Zbq} {e f:List SAK} (h:Vm P g ρ xs e) (k:Vm P g ρ d f):Vm P g ρ (xs++d) (e++f):=by
 refine ⟨by rw [XD,XD,h.1,k.1],fun i x a b c=>?_⟩;rcases XS i xs.length with hi | hi
 ·rw [XH hi] at b;rw [XH (by rw [← h.1];exact hi)] at c;exact h.2 i x a b c
 ·rw [XG hi] at b;rw [XG (by rw [← h.1];exact hi),← h.1] at c;exact k.2 _ x a b c
def Raw (c:List SAK):Prop:=∀ a∈c,a.sv.isG=Xb∧∀ h ds b,a = .clo h ds b→b = []
def Zow {P:Program} {g:Nat→SV} {x:Operand} {a:SAK} (ρ:Nat→V) (h:Zcc g x=Xa a):(a.den ρ).ok P (fun d=>(g d).den ρ) (.op x)∧a.sv.isG=Xb∧(∀ h ds b,a = .clo h ds b→b = [])∧∃ t d q j,a = .ref t d q j:=by
 unfold Zcc at h;split at h
 ·rename_i t d q c e;simp only [Xf] at h;subst h;have f:x = .tmp t:=by cases x<;>simp [Z8] at c;rw [c]
  subst f;simp only [Z8,XA,Xf] at e;exact ⟨⟨rfl,by show (g t).den ρ=_;rw [e];rfl⟩,rfl,(fun _ _ _ h=>by cases h),t,d,q,0,rfl⟩
 ·cases h
def Zv1 (rf:List Nat) (g:Nat→SV) (xs:List Operand) (b:List SAK) (i0:Nat):Prop:=∀ (i:Nat) (a:SAK) (x:Operand),xs[i]? = Xa x→b[i]? = Xa a→(rf.contains (i0+i)&&(Zcc g x).isSome)=Xc→∃ t d q j,a = .ref t d q j
def Zaw {P:Program} {g:Nat→SV} {rf:List Nat} (ρ:Nat→V):∀ (xs:List Operand) (i0:Nat) (f:List SAK),Zce P g rf xs i0=Xa f→Vm P g ρ (xs.map .op) f∧Raw f∧Zv1 rf g xs f i0
 | [], i0, f, h => by simp only [Zce, Xf] at h; subst h; exact ⟨⟨rfl, by simp⟩, by simp [Raw], by simp [Zv1]⟩
 | x :: xs, i0, f, h => by
  simp only [Zce] at h;split at h
  ·rename_i a n o p;simp only [Xf] at h;subst h;obtain ⟨⟨v,w⟩,z,A⟩:=Zaw ρ xs (i0+1) n p
   obtain ⟨k,l,m,r⟩:(a.den ρ).ok P (fun d=>(g d).den ρ) (.op x)∧a.sv.isG=Xb∧(∀ h ds s,a = .clo h ds s→s = [])∧((rf.contains i0&&(Zcc g x).isSome)=Xc→∃ t d q j,a = .ref t d q j):=by
    split at o
    ·obtain ⟨k,l,m,r⟩:=Zow (P:=P) ρ o;exact ⟨k,l,m,fun _=>r⟩
    ·rename_i C;obtain ⟨k,l,m⟩:=Zoq ρ o;exact ⟨k,l,m,fun h=>(C h).elim⟩
   refine ⟨⟨by simpa using v,fun i y b e c=>?_⟩,fun b c=>?_,fun i b y e c u=>?_⟩
   ·cases i with
    | zero =>
     simp only [Xn,XM,Xf] at e c;subst e;subst c;exact k
    | succ i => exact w i y b (by simpa using e) (by simpa using c)
   ·rcases Xr.1 c with rfl | c
    ·exact ⟨l,m⟩
    ·exact z b c
   ·cases i with
    | zero =>
     simp only [XM,Xf] at c e;subst c;subst e;exact r u
    | succ i => exact A i b y (by simpa using e) (by simpa using c) (by rw [Uy, Nat.add_comm 1 i]; exact u)
  ·cases h
def Zo1 {g:Nat→SV} {c:Bool} {d:Nat} {a:SAK} (ρ:Nat→V) (h:Zro g c d=Xa a):∃ e cs,a = .box d e c cs∧(g d).den ρ=mkB e (cs.map (BC.den ρ)):=by
 unfold Zro at h;split at h
 ·rename_i cs b;split at h
  ·simp only [Xf] at h;exact ⟨Xb,cs,h.symm,by rw [b];rfl⟩
  ·cases h
 ·rename_i cs b;split at h
  ·simp only [Xf] at h;exact ⟨Xc,cs,h.symm,by rw [b];rfl⟩
  ·cases h
 ·cases h
def Zav {g:Nat→SV} {l:Bool} (ρ:Nat→V):∀ (ds:List Nat) (b:List SAK),WZ g l ds=Xa b→b.length=ds.length∧∀ (i d:Nat),ds[i]? = Xa d→∃ c cs,b[i]? = Xa (.box d c l cs)∧
  (g d).den ρ=mkB c (cs.map (BC.den ρ))
 | [], b, h => by simp only [WZ, Xf] at h; subst h; exact ⟨rfl, by simp⟩
 | d :: ds, b, h => by
  simp only [WZ] at h;split at h
  ·rename_i a f m j;simp only [Xf] at h;subst h;obtain ⟨n,o⟩:=Zav ρ ds f j;refine ⟨by simp [n],fun i e k=>?_⟩
   cases i with
   | zero =>
    simp only [XM,Xf] at k;subst k;obtain ⟨c,cs,rfl,p⟩:=Zo1 ρ m;exact ⟨c,cs,rfl,p⟩
   | succ i => exact o i e (by simpa using k)
  ·cases h
def ZrL {P:Program} {g:Nat→SV} (ρ:Nat→V) {ds:List Nat} {e:List SAK} (h:WZ g Xb ds=Xa e):Vm P g ρ (ds.map .cap) e∧Raw e:=by
 obtain ⟨l,m⟩:=Zav ρ ds e h;refine ⟨⟨by simp [l],fun i x a b c=>?_⟩,fun a c=>?_⟩
 ·rw [Xp] at b
  cases hd:ds[i]? with
  | none => rw [hd] at b; cases b
  | some d =>
   rw [hd] at b;simp only [XA,Xf] at b;subst b;obtain ⟨n,cs,j,o⟩:=m i d hd;rw [j] at c;simp only [Xf] at c;subst c;exact ⟨rfl,o,rfl⟩
 ·obtain ⟨i,f⟩:=X6.1 c;have k:i < ds.length:=by rw [← l];exact (Xx.1 f).1
  obtain ⟨n,cs,j,_⟩:=m i _ (Xm k);rw [j] at f;simp only [Xf] at f;subst f;exact ⟨rfl,fun _ _ _ h=>by cases h⟩
def ZmJ {P:Program} {g:Nat→SV} (ρ:Nat→V) {ds:List Nat} {c:List SAK} (h:WZ g Xc ds=Xa c):Vm P g ρ (ds.map fun _=>.ghost) c:=by
 obtain ⟨f,j⟩:=Zav ρ ds c h;refine ⟨by simp [f],fun i x a b e=>?_⟩;rw [Xp] at b
 cases hd:ds[i]? with
 | none => rw [hd] at b; cases b
 | some d =>
  rw [hd] at b;simp only [XA,Xf] at b;subst b;obtain ⟨m,cs,k,l⟩:=j i d hd;rw [k] at e;simp only [Xf] at e;subst e;exact ⟨l,rfl⟩
def KF:∀ (c:List SAK) (h:FuncId) (ds f:List Nat),SAK.clo h ds f∈c→∀ d∈ds,d∈Zq c
 | [], _, _, _, hm, _, _ => by simp at hm
 | a :: c, h, ds, f, hm, d, hd => by
  have b:d∈Zq c→d∈Zq (a::c):=by
   intro e
   cases a with
   | clo _ _ _ => exact Xq.2 (.inr e)
   | ref _ _ _ _ =>
    simp only [Zq];split
    ·exact e
    ·exact UD _ e
   | _ => exact e
  rcases Xr.1 hm with rfl | hm
  ·by_cases e:d∈Zq c
   ·exact b e
   ·refine Xq.2 (.inl ?_);rw [List.mem_eraseDups,Uu];exact ⟨hd,by simpa using e⟩
  ·exact b (KF c h ds f hm d hd)
def Kf:∀ (c:List SAK) (t d q j:Nat),SAK.ref t d q j∈c→d∈Zq c
 | [], _, _, _, _, hm => by simp at hm
 | a :: c, t, d, q, j, hm => by
  rcases Xr.1 hm with rfl | hm
  ·simp only [Zq];split
   ·rename_i b;simpa using b
   ·exact UX
  ·have b:=Kf c t d q j hm
   cases a with
   | clo _ _ _ => exact Xq.2 (.inr b)
   | ref _ _ _ _ =>
    simp only [Zq];split
    ·exact b
    ·exact UD _ b
   | _ => exact b
def Zh1:∀ (l:List Nat) (d:Nat),d∈l→l[ZnU d l]? = Xa d
 | [], _, h => by simp at h
 | x :: xs, d, h => by
  unfold ZnU;split
  ·rename_i a;rw [a];rfl
  ·rename_i a;rcases Xr.1 h with rfl | h
   ·exact (a rfl).elim
   ·simpa using Zh1 xs d h
def ZnI {P:Program} {σ:Nat→AV} {ρ:Nat→V} {base:Nat} {b:List Nat} {x:Zbq} {a:SAK} (h:(a.den ρ).ok P σ x):((Zbp base b a).den ρ).ok P σ x:=by
 cases a with
 | clo f ds gs => cases x <;> exact h
 | ref t d q j => cases x <;> exact h
 | _ => exact h
def ZaJ (ρ:Nat→V) {x:SC} (h:Za8 x=Xc):W8 (x.den ρ)=Xc:=by cases x<;>first | rfl | cases h
def ZdR (ρ:Nat→V) {x:SV} (h:Zij x=Xc):Zhg (x.den ρ)=Xc:=by
 have a:∀ cs:List SC,cs.all Za8=Xc→(cs.map (SC.den ρ)).all W8=Xc:=by
  intro cs h;rw [XE] at h ⊢;intro y b;obtain ⟨z,d,rfl⟩:=Xs.1 b;exact ZaJ ρ (h z d)
 have e:∀ cs:List BC,cs.all Zm6=Xc→(cs.map (BC.den ρ)).all W8=Xc:=by
  intro cs h;rw [XE] at h ⊢;intro y b;obtain ⟨z,d,rfl⟩:=Xs.1 b;have:=h z d
  cases z with
  | c w => exact ZaJ ρ this
  | own _ _ _ => cases this
  | gone => cases this
 cases x with
 | c y => cases y <;> first | rfl | cases h
 | dead => rfl
 | agg cs => exact a cs h
 | box cs => exact e cs h
 | gbox cs => exact e cs h
 | tuple vs =>
  simp only [Zij,XE] at h;simp only [SV.den,Zhg,XE];intro y b;obtain ⟨z,d,rfl⟩:=Xs.1 b;have:=h z d
  cases z with
  | c w =>
   have f:=ZaJ ρ (show Za8 w=Xc from this)
   cases w<;>first | rfl | cases this
  | agg cs => exact a cs this
  | own _ _ _ => cases this
  | gone => cases this
 | _ => cases h
def Zhj {P:Program} {g:Nat→SV} {rf:List Nat} (ρ:Nat→V):∀ {args:List Operand} {i0 i:Nat} {x:Operand} {d q:Nat},args[i]? = Xa x→(rf.contains (i0+i)&&(Zcc g x).isSome)=Xb→getS P (fun d=>(g d).den ρ) x = .mref d q→(∀ t e' f,x = .tmp t→(g t).den ρ≠.own Xc e' f)→(d,q)∈Wu P g rf args i0
 | [], _, i, _, _, _, hx, _, _, _ => by simp at hx
 | y :: rest, i0, i, x, d, q, hx, hi, h, hno => by
  have c:JF P g x = .mref d q:=ZhU (ρ:=ρ) (by rw [YF];exact h);unfold Wu
  cases i with
  | zero =>
   simp only [XM,Xf] at hx;subst hx;rw [P3 (by rw [UN] at hi;rw [hi];simp)];split
   ·rename_i b e l a
    cases y with
    | tmp t =>
     simp only [Z8,XA,Xf] at a
     cases b with
     | true => exact (hno t e (l.den ρ) rfl (by rw [a]; rfl)).elim
     | false => simp only [JF, a] at c; cases c
    | _ => simp [Z8] at a
   ·rw [c];exact UX
  | succ i =>
   have ih:=Zhj (P:=P) (g:=g) (rf:=rf) ρ (args:=rest) (i0:=i0+1) (i:=i) (by simpa using hx) (by rw [Uy,Nat.add_comm 1 i];exact hi) h hno;split
   ·exact ih
   ·split
    ·exact ih
    ·split
     ·exact UD _ ih
     ·exact ih
def K1 (ρ:Nat→V):∀ (c:List SAK),(∀ a∈c,a.sv.isG=Xb)→((c.map (SAK.den ρ)).map AK.av).countP AV.isG=0
 | [], _ => rfl
 | a :: c, h => by
  have f:=h a (by simp)
  have:(a.den ρ).av.isG=Xb:=by
   rw [Zqu]
   cases a with
   | imm x => cases x <;> first | rfl | (rename_i y; cases y <;> rfl) | (simp [SAK.sv, SV.isG] at f)
   | own t x e l => rfl
   | box d fr to cs => cases to <;> first | rfl | (simp [SAK.sv, ZnR, SV.isG] at f)
   | clo g ds gs => rfl
   | ref t d q j => rfl
   | pad => rfl
  rw [Xn,Xn,List.countP_cons,K1 ρ c fun b i=>h b (by simp [i]),this];rfl
def ZjV {P:Program} {g:Nat→SV} (ρ:Nat→V) {xs:List Zbq} {c n:List SAK} {r:Nat} (v:Vm P g ρ xs c) (Q:Raw c) (h:ZaR g r c=Xa n) :
  ∃ tail,Vm P g ρ (xs++tail) n∧(∀ x∈tail,x = .pad∨x = .ghost)∧xs.length+((n.map (SAK.den ρ)).map AK.av).countP AV.isG≤n.length∧Zvp (n.map (SAK.den ρ))∧Zt5 (n.map (SAK.den ρ))∧∀ (i t d q j:Nat),c[i]? = Xa (SAK.ref t d q j)→∃ X,n[i]? = Xa (SAK.ref t d q X):=by
 unfold ZaR at h;split at h
 ·rename_i Y;simp only [Xf] at h;subst h;refine ⟨[],by rw [List.append_nil];exact v,by simp,by rw [K1 ρ c fun a m=>(Q a m).1,v.1];exact Xt _,fun i f ds A e=>?_,fun i t d q j e=>?_,fun i t d q j e=>⟨j,e⟩⟩
  case refine_2=>
   rw [Xp] at e
   cases m:c[i]? with
   | none => rw [m] at e; cases e
   | some a =>
    rw [m] at e;simp only [XA,Xf] at e
    cases a<;>simp only [SAK.den,reduceCtorEq] at e
    have:=Kf c _ _ _ _ (Xo m);rw [Y] at this
    cases this
  rw [Xp] at e
  cases m:c[i]? with
  | none => rw [m] at e; cases e
  | some a =>
   rw [m] at e;simp only [XA,Xf] at e;have s:=Xo m
   cases a<;>simp only [SAK.den,reduceCtorEq] at e
   rename_i f' y C;simp only [AK.clo.injEq] at e;obtain ⟨rfl,rfl,rfl⟩:=e;have R:=(Q _ s).2 _ _ _ rfl
   have S:y = []:=by
    refine List.eq_nil_iff_forall_not_mem.2 fun d G=>?_;have:=KF c f' y C s d G;rw [Y] at this
    cases this
   subst R;subst S;exact ⟨rfl,fun k d j u=>by simp at u⟩
 ·split at h
  ·rename_i aa
   cases hc:WZ g Xc (Zq c) with
   | none => rw [hc] at h; cases h
   | some A =>
    rw [hc] at h;simp only [XA,Xf] at h;subst h;obtain ⟨Z,O⟩:=Zav ρ (Zq c) A hc
    have H:Vm P g ρ (Xv (r-c.length) Zbq.pad) (Xv (r-c.length) SAK.pad):=by
     refine ⟨by simp,fun i x a v m=>?_⟩;have z:=Xo v;have h2:=Xo m;rw [(UJ.1 z).2,(UJ.1 h2).2];trivial
    have J:Vm P g ρ xs (c.map (Zbp r (Zq c))):=by
     refine ⟨by simp [v.1],fun i x a T m=>?_⟩;rw [Xp] at m
     cases hai:c[i]? with
     | none => rw [hai] at m; cases m
     | some b =>
      rw [hai] at m;simp only [XA,Xf] at m;subst m;exact ZnI (v.2 i x b T hai)
    refine ⟨Xv (r-c.length) Zbq.pad++(Zq c).map fun _=>Zbq.ghost,?_,fun x v=>?_,?_,fun i f ds js e=>?_,fun i t d q j e=>?_,fun i t d q j e=>?_⟩
    ·rw [← XB];exact (J.append H).append (ZmJ ρ hc)
    ·rcases Xq.1 v with v | v
     ·exact .inl (UJ.1 v).2
     ·obtain ⟨_,_,rfl⟩:=Xs.1 v;exact .inr rfl
    ·have L:(((c.map (Zbp r (Zq c))).map (SAK.den ρ)).map AK.av).countP AV.isG=0:=K1 ρ _ fun a m=>by
      obtain ⟨b,hb,rfl⟩:=Xs.1 m;have:=(Q b hb).1
      cases b<;>exact this
     have M:(((Xv (r-c.length) SAK.pad).map (SAK.den ρ)).map AK.av).countP AV.isG=0:=K1 ρ _ fun a m=>by
      rw [(UJ.1 m).2];rfl
     have U:((A.map (SAK.den ρ)).map AK.av).countP AV.isG≤A.length:=by
      have:=List.countP_le_length (p:=AV.isG) (l:=(A.map (SAK.den ρ)).map AK.av);simpa using this
     simp only [Us,List.countP_append,XD,Xi,Td] at L M U ⊢;rw [L,M,v.1];omega
    ·rw [Xp] at e
     have D:∃ a,(c.map (Zbp r (Zq c)))[i]? = Xa a∧a.den ρ = .clo f ds js:=by
      cases hs:(c.map (Zbp r (Zq c))++Xv (r-c.length) .pad++A)[i]? with
      | none => rw [hs] at e; cases e
      | some a =>
       rw [hs] at e;simp only [XA,Xf] at e;rcases XS i c.length with z | z
       ·rw [XB,XH (by simpa using z)] at hs;exact ⟨a,hs,e⟩
       ·rw [XB,XG (by simpa using z)] at hs;rcases Xq.1 (Xo hs) with s | s
        ·rw [(UJ.1 s).2] at e;cases e
        ·obtain ⟨k,u⟩:=X6.1 s;have w:k < (Zq c).length:=by rw [← Z];exact (Xx.1 u).1
         obtain ⟨N,cs,E,_⟩:=O k _ (Xm w);rw [E] at u;simp only [Xf] at u;subst u
         cases e
     obtain ⟨a,m,o⟩:=D;rw [Xp] at m
     cases hai:c[i]? with
     | none => rw [hai] at m; cases m
     | some b =>
      rw [hai] at m;simp only [XA,Xf] at m;subst m;have s:=Xo hai
      cases b<;>simp only [Zbp,SAK.den,reduceCtorEq] at o
      rename_i f' y C;simp only [AK.clo.injEq] at o;obtain ⟨rfl,rfl,rfl⟩:=o;refine ⟨by simp,fun k d j u W=>?_⟩;rw [Xp,u] at W;simp only [XA,Xf] at W;subst W;have G:=KF c f' y C s d (Xo u);obtain ⟨N,cs,E,_⟩:=O _ d (Zh1 _ d G);refine ⟨N,cs.map (BC.den ρ),?_⟩;rw [Xp,XG (by simp;omega)]
      have:r+ZnU d (Zq c)-(c.map (Zbp r (Zq c))++Xv (r-c.length) SAK.pad).length=ZnU d (Zq c):=by
       simp;omega
      rw [this,E];rfl
    ·rw [Xp] at e
     have D:∃ a,(c.map (Zbp r (Zq c)))[i]? = Xa a∧a.den ρ = .ref t d q j:=by
      cases hs:(c.map (Zbp r (Zq c))++Xv (r-c.length) .pad++A)[i]? with
      | none => rw [hs] at e; cases e
      | some a =>
       rw [hs] at e;simp only [XA,Xf] at e;rcases XS i c.length with z | z
       ·rw [XB,XH (by simpa using z)] at hs;exact ⟨a,hs,e⟩
       ·rw [XB,XG (by simpa using z)] at hs;rcases Xq.1 (Xo hs) with s | s
        ·rw [(UJ.1 s).2] at e;cases e
        ·obtain ⟨k,u⟩:=X6.1 s;have w:k < (Zq c).length:=by rw [← Z];exact (Xx.1 u).1
         obtain ⟨N,cs,E,_⟩:=O k _ (Xm w);rw [E] at u;simp only [Xf] at u;subst u
         cases e
     obtain ⟨a,m,o⟩:=D;rw [Xp] at m
     cases hai:c[i]? with
     | none => rw [hai] at m; cases m
     | some b =>
      rw [hai] at m;simp only [XA,Xf] at m;subst m;have s:=Xo hai
      cases b<;>simp only [Zbp,SAK.den,reduceCtorEq] at o
      rename_i t' d' q' X;simp only [AK.ref.injEq] at o;obtain ⟨rfl,rfl,rfl,rfl⟩:=o;have G:=Kf c _ _ _ _ s;obtain ⟨N,cs,E,_⟩:=O _ _ (Zh1 _ _ G);refine ⟨N,cs.map (BC.den ρ),?_⟩;rw [Xp,XG (by simp;omega)]
      have:r+ZnU d' (Zq c)-(c.map (Zbp r (Zq c))++Xv (r-c.length) SAK.pad).length=ZnU d' (Zq c):=by
       simp;omega
      rw [this,E];rfl
    ·have w:=(Xx.1 e).1;refine ⟨r+ZnU d (Zq c),?_⟩;rw [XB,XH (by simpa using w),Xp,e];rfl
  ·cases h
def W4:∀ (l:List Nat),ZdT l=Xc→l.Nodup
 | [], _ => List.nodup_nil
 | x :: xs, h => by
  simp only [ZdT,Xk,XJ,TY,decide_eq_false_iff_not] at h;exact U1.2 ⟨h.1,W4 xs h.2⟩
def Zoj (ρ:Nat→V) (a b:Bool) (o:SV):(Zxm a b o).den ρ=reB a b (o.den ρ):=by
 cases b with
 | true => cases o <;> first | exact Zby ρ a _ | rfl | (rename_i x; cases x <;> rfl)
 | false => cases o <;> first | exact Zby ρ a _ | rfl | (rename_i x; cases x <;> rfl)
def ZqJ {a b:Bool} {o:SV} {n:Nat} (h:o.bd n):(Zxm a b o).bd n:=by
 unfold Zxm;split
 ·cases a<;>exact h
 ·cases a<;>exact h
 ·trivial
def Zf4 (ρ b:Nat→V):∀ (d:List SAK) (c:List SV),Zc5 (d.map (SAK.den ρ)) (c.map (SV.den b))=(ZaK d c).map fun u=>(u.1,u.2.den b)
 | [], c => by cases c <;> rfl
 | a :: d, [] => by cases a <;> rfl
 | a :: d, o :: c => by
  cases a<;>simp only [Xn,SAK.den,Zc5,ZaK,Zf4 ρ b d c,Zoj]<;>rfl
def K4 {n:Nat} : ∀ (f:List SAK) (b:List SV),(∀ o∈b,o.bd n)→∀ u∈ZaK f b,u.2.bd n
 | [], b, _, u, h => by cases b <;> simp [ZaK] at h
 | a :: f, [], _, u, h => by cases a <;> simp [ZaK] at h
 | a :: f, o :: b, ho, u, h => by
  cases a with
  | imm x => exact K4 f b (fun o' c => ho o' (by simp [c])) u h
  | clo _ _ _ => exact K4 f b (fun o' c => ho o' (by simp [c])) u h
  | pad => exact K4 f b (fun o' c => ho o' (by simp [c])) u h
  | own t x e l =>
   rcases Xr.1 h with rfl | h
   ·trivial
   ·exact K4 f b (fun o' c=>ho o' (by simp [c])) u h
  | ref t x e l =>
   rcases Xr.1 h with rfl | h
   ·trivial
   ·exact K4 f b (fun o' c=>ho o' (by simp [c])) u h
  | box d fr to cs =>
   rcases Xr.1 h with rfl | h
   ·exact ZqJ (ho o (by simp))
   ·exact K4 f b (fun o' c=>ho o' (by simp [c])) u h
def us1 {t n:Nat} {x:SV} (h:x.bd n):∀ u∈[(t,x)],u.2.bd n:=by
 intro u a;rw [XF] at a;subst a;exact h
def us2 {t b n:Nat} {x y:SV} (h:x.bd n) (c:y.bd n):∀ u∈[(t,x),(b,y)],u.2.bd n:=by
 intro u a;rcases Xr.1 a with rfl | a
 ·exact h
 ·exact us1 c u a
def JZ {g:Nat→SV} {d:Nat} : ∀ (n:Nat) (u:Nat×SV),u∈Jx g d n↔u.2 = .dead∧u.1 < n∧u.1≠d∧ZdY d (g u.1)=Xc
 | 0, u => by simp [Jx]
 | n + 1, u => by
  have ih:=JZ (g:=g) (d:=d) n u;have f:∀ p:Prop,(u∈(if n≠d∧ZdY d (g n)=Xc then (n,SV.dead)::Jx g d n else Jx g d n)↔p)→(u∈Jx g d (n+1)↔p):=fun p h=>h;apply f;split
  ·rename_i h;rw [Xr,ih];constructor
   ·rintro (rfl | ⟨c,i,e⟩)
    ·exact ⟨rfl,Ul n,h.1,h.2⟩
    ·exact ⟨c,by omega,e⟩
   ·rintro ⟨c,i,e⟩;by_cases hn:u.1=n
    ·left;obtain ⟨a,b⟩:=u;simp only at c hn;rw [c,hn]
    ·exact .inr ⟨c,by omega,e⟩
  ·rename_i h;rw [ih];constructor
   ·rintro ⟨c,i,e⟩;exact ⟨c,by omega,e⟩
   ·rintro ⟨c,i,e,j⟩;refine ⟨c,?_,e,j⟩;by_cases hn:u.1=n
    ·subst hn;exact (h ⟨e,j⟩).elim
    ·omega
def ZaS (ρ:Nat→V) (d:Nat) (x:SV):ZdY d x=Xc↔∃ k,Jz (x.den ρ) d k:=by
 cases x with
 | mref d' k' =>
  simp only [ZdY,beq_iff_eq];constructor
  ·rintro rfl;exact ⟨k',.inl rfl⟩
  ·rintro ⟨k,h | ⟨_,h⟩⟩ <;> cases h;rfl
 | eref d' k' i s o =>
  simp only [ZdY,beq_iff_eq];constructor
  ·rintro rfl;exact ⟨k',.inr ⟨_,rfl⟩⟩
  ·rintro ⟨k,h | ⟨_,h⟩⟩ <;> cases h;rfl
 | c y =>
  constructor
  ·intro h;cases h
  ·rintro ⟨k,h | ⟨_,h⟩⟩ <;> cases y<;>cases h
 | _ =>
  constructor
  ·intro h;cases h
  ·rintro ⟨k,h | ⟨_,h⟩⟩ <;> cases h
def J8 {g:Nat→SV} (ρ:Nat→V) {d a:Nat} (c:∀ i,a≤i→g i = .dead):K5 (fun d=>(g d).den ρ) d ((Jx g d a).map fun u=>(u.1,u.2.den ρ)):=by
 refine ⟨fun u f=>?_,fun i k j l=>?_⟩
 ·obtain ⟨v,m,rfl⟩:=Xs.1 f;obtain ⟨p,s,q,r⟩:=(JZ a v).1 m;exact ⟨q,by show v.2.den ρ=_;rw [p];rfl,(ZaS ρ d _).1 r⟩
 ·have b:=(ZaS ρ d (g i)).2 ⟨k,l⟩
  have e:i < a:=by
   rcases XS i a with h | h
   ·exact h
   ·rw [c i h] at b;cases b
  rw [Uw];exact Xs.2 ⟨(i,.dead),(JZ a (i,.dead)).2 ⟨rfl,e,j,b⟩,rfl⟩
def ZlP {g:Nat→SV} (ρ:Nat→V) {a:Nat} (b:∀ i,a≤i→g i = .dead) {c:Odr} {d:Nat} {us:Ups} (h:Zlv c g a d=Xa us) :
  (∀ u∈us,u.2 = .dead)∧Yv c (fun d=>(g d).den ρ) d (us.map fun u=>(u.1,u.2.den ρ)):=by
 unfold Zlv at h;split at h
 ·simp only [Xf] at h;subst h;exact ⟨fun u e=>((JZ a u).1 e).1,.inl ⟨rfl,J8 ρ b⟩⟩
 ·split at h
  ·rename_i N M K f;simp only [Xf] at h;subst h;exact ⟨fun u e=>by simp at e,.inr ⟨N,M,_,rfl,f,rfl⟩⟩
  ·cases h
def Zju {P:Program} {e:TypeId} {l:LE} (ρ:Nat→V) (h:mvB P e l=Xc):Mv P e (l.den ρ):=by
 unfold mvB at h;rcases TG.1 h with h | h
 ·exact .inl (by simpa using h)
 ·unfold Zjb at h;split at h
  ·exact .inr rfl
  ·cases h
def ZiT {P:Program} {res:SV} (ρ:Nat→V) (h:Zpc P res=Xc):∀ e xs,res.den ρ = .own Xc e xs→Zv P e=Xb:=by
 intro e xs a
 cases res with
 | own x e' l =>
  simp only [SV.den,AV.own.injEq] at a;obtain ⟨rfl,rfl,_⟩:=a;simpa [Zpc] using h
 | c y => cases y <;> cases a
 | _ => cases a
def Yz {P:Program} {g:Nat→SV} (ρ:Nat→V) {b:Nat} (c:∀ i,b≤i→g i = .dead) {f:Odr} {x:Bool} {t:Nat} {e:TypeId} {l:LE} {us:Ups} (p:g t = .own x e l) (h:KG P f g b t x e l=Xa us) :
  ∃ a,us=a∧(a.map fun u=>(u.1,u.2.den ρ))=(t,Zao P x e (l.den ρ))::(a.tail.map fun u=>(u.1,u.2.den ρ))∧((x=Xb∧(a.tail.map fun u=>(u.1,u.2.den ρ)) = [])∨Yv f (fun d=>(g d).den ρ) t (a.tail.map fun u=>(u.1,u.2.den ρ)))∧(x=Xc→Mv P e (l.den ρ)):=by
 unfold KG at h;split at h
 ·simp only [Xf] at h;subst h;exact ⟨_,rfl,rfl,.inl ⟨rfl,rfl⟩,fun h=>by cases h⟩
 ·split at h
  case isFalse=>cases h
  rename_i j;split at h
  ·simp only [Xf] at h;subst h;exact ⟨_,rfl,rfl,.inr (.inl ⟨rfl,J8 ρ c⟩),fun _=>Zju ρ j⟩
  ·rename_i N M K;split at h
   ·rename_i m;simp only [Xf] at h;subst h;exact ⟨_,rfl,rfl,.inr (.inr ⟨N,M,_,rfl,m,rfl⟩),fun _=>Zju ρ j⟩
   ·cases h
def Yw {P:Program} {g:Nat→SV} {a n:Nat} {b:Odr} {x:Bool} {t:Nat} {e:TypeId} {l:LE} {us:Ups} (h:KG P b g a t x e l=Xa us) (d:l.bd n):∀ u∈us,u.2.bd n:=by
 unfold KG at h;split at h
 ·simp only [Xf] at h;subst h;exact us1 d
 ·split at h
  case isFalse=>cases h
  split at h
  ·simp only [Xf] at h;subst h;intro u c;rcases Xr.1 c with rfl | c
   ·trivial
   ·rw [((JZ a u).1 c).1];trivial
  ·split at h
   ·simp only [Xf] at h;subst h;exact us1 trivial
   ·cases h
def V9 {cs:List BC} {off m:Nat} (h:Wi ((cs.drop off).take m)=Xc) (ρ:Nat→V):ZcG (((cs.map (BC.den ρ)).drop off).take m):=by
 rw [← Uq,← Um];exact ZcF h ρ
def ZdQ {cs:List BC} {off m:Nat} (h:Zbe ((cs.drop off).take m)=Xc) (ρ:Nat→V):Whole (((cs.map (BC.den ρ)).drop off).take m):=by
 rw [← Uq,← Um];exact Zg9 h ρ
def Zim {g:Nat→SV} (ρ:Nat→V) {a:Nat} (b:∀ i,a≤i→g i = .dead) {c:Odr} {d:Nat} {cs:List BC} {off m:Nat} (h:(Wi ((cs.drop off).take m)||Zfh c g a d)=Xc) :
  ZcG (((cs.map (BC.den ρ)).drop off).take m)∨Yv c (fun d=>(g d).den ρ) d []:=by
 rcases TG.1 h with h | h
 ·exact .inl (V9 h ρ)
 ·right;unfold Zfh at h;split at h
  ·simp only [List.isEmpty_iff] at h;refine .inl ⟨rfl,by simp,fun j q e f=>?_⟩;have:=(J8 ρ b (d:=d)).2 j q e f;rw [h] at this;exact this
  ·exact .inr ⟨_,_,_,rfl,h,rfl⟩
def Zib {x:SV} (ρ:Nat→V) (h:x.isG=Xb):(x.den ρ).isG=Xb:=by
 cases x with
 | gbox cs => cases h
 | c y => cases y <;> rfl
 | _ => rfl
def Jn {x:SV} {k:Nat} {e:TypeId} {l:LE} (ρ:Nat→V) (h:JD x k=Xa (e,l)):Zy (x.den ρ) k=Xa (e,l.den ρ):=by
 unfold JD at h;split at h
 ·simp only [Xf,Xw] at h;obtain ⟨rfl,rfl⟩:=h;rfl
 ·rename_i cs q;split at h
  ·rename_i e' b a;simp only [Xf,Xw] at h;obtain ⟨rfl,rfl⟩:=h;simp only [SV.den,Zy,Xp,a];rfl
  ·cases h
 ·rename_i cs q;split at h
  ·rename_i e' b a;simp only [Xf,Xw] at h;obtain ⟨rfl,rfl⟩:=h;simp only [SV.den,Zy,Xp,a];rfl
  ·cases h
 ·cases h
def Kd {x:SV} {k n:Nat} {e:TypeId} {l:LE} (h:JD x k=Xa (e,l)) (a:x.bd n):l.bd n:=by
 unfold JD at h;split at h
 ·simp only [Xf,Xw] at h;obtain ⟨rfl,rfl⟩:=h;exact a
 ·rename_i cs q;split at h
  ·rename_i e' c b;simp only [Xf,Xw] at h;obtain ⟨rfl,rfl⟩:=h;exact a _ (Xo b)
  ·cases h
 ·rename_i cs q;split at h
  ·rename_i e' c b;simp only [Xf,Xw] at h;obtain ⟨rfl,rfl⟩:=h;exact a _ (Xo b)
  ·cases h
 ·cases h
def VT (ρ:Nat→V) (x:SV) (k:Nat) (b:Bool) (e:TypeId) (l:LE):(KA x k b e l).den ρ=ZN (x.den ρ) k b e (l.den ρ):=by
 cases x with
 | own x e' l' => cases k <;> rfl
 | box cs =>
  cases k with
  | zero => rfl
  | succ k => simp only [KA, SV.den, ZN, Tg]; rfl
 | c y => cases y <;> rfl
 | _ => cases k <;> rfl
def Wp {x:SV} {k n:Nat} {b:Bool} {e:TypeId} {l:LE} (d:x.bd n) (f:l.bd n):(KA x k b e l).bd n:=by
 unfold KA;split
 ·exact f
 ·intro c a;rcases UR a with a | rfl
  ·exact d c a
  ·exact f
 ·exact d
section
variable {P:Program} {E:Env} {tx:Odr} {tk:Bool} {R:AV→List AV→Prop} {A:Nat→List V→Prop} {ρ:Nat→V} {g:Nat→SV} {o:Oper} {n:Nat} {k:K}
def Zsg {x:Operand} (q:∀ d,(g d).bd n) (j:∀ i,E.top≤i→g i = .dead) (p:o.op = .move x) (h:(J6 P E tx tk g o n k).wp P R A ρ):Kr tx P R A ρ g o n k:=by
 have a:(k (JF P g x) [] [] n).wp P R A ρ→Kr tx P R A ρ g o n k:=fun r=>Z7 r (ZM q x) (by rw [YF];exact ZfQ (.inl p));simp only [J6,p] at h;split at h
 ·rename_i t;have l:=q t;split at h
  ·rename_i vs f;rw [f] at l;exact Zb7 h l (us1 trivial) (Zku p (by rw [f];rfl))
  ·rename_i b e xs f;rw [f] at l;unfold ZeL at h;split at h
   ·split at h
    ·rename_i y;obtain rfl:b=Xc:=by cases b<;>simp_all
     refine a ?_;have:JF P g (.tmp t) = .mref t 0:=by simp only [JF,f]
     rw [this];exact h
    split at h
    ·rename_i us m;obtain ⟨s,rfl,u,v,w⟩:=Yz ρ j (t:=t) f m;exact ZcK h l (Yw m l) (by rw [u];exact ZgB (.inl p) (by rw [f];rfl) v w)
    ·exact h.elim
   ·refine a ?_;have:JF P g (.tmp t)=match b with | true=>.mref t 0 | false=>.c (.slice Xb (P.cellsOf e) xs):=by simp only [JF,f];cases b<;>rfl
    rw [this]
    cases b<;>exact h
  ·exact a h
 ·exact a h
def Zly {x:Operand} (q:∀ d,(g d).bd n) (f:∀ i,E.top≤i→g i = .dead) (m:o.op = .assign x) (h:(J6 P E tx tk g o n k).wp P R A ρ):Kr tx P R A ρ g o n k:=by
 have a:(k (JF P g x) [] [] n).wp P R A ρ→Kr tx P R A ρ g o n k:=fun r=>Z7 r (ZM q x) (by rw [YF];exact ZfQ (.inr m));simp only [J6,m] at h;split at h
 ·rename_i t;have p:=q t;split at h
  ·exact h.elim
  ·rename_i b e xs j;rw [j] at p;unfold ZeL at h;split at h
   ·split at h
    ·rename_i y;obtain rfl:b=Xc:=by cases b<;>simp_all
     refine a ?_;have:JF P g (.tmp t) = .mref t 0:=by simp only [JF,j]
     rw [this];exact h
    split at h
    ·rename_i us l;obtain ⟨s,rfl,u,v,w⟩:=Yz ρ f (t:=t) j l;exact ZcK h p (Yw l p) (by rw [u];exact ZgB (.inr m) (by rw [j];rfl) v w)
    ·exact h.elim
   ·refine a ?_;have:JF P g (.tmp t)=match b with | true=>.mref t 0 | false=>.c (.slice Xb (P.cellsOf e) xs):=by simp only [JF,j];cases b<;>rfl
    rw [this]
    cases b<;>exact h
  ·exact a h
 ·split at h
  ·exact Z7 h trivial (Zpv m)
  ·exact h.elim
 ·exact a h
def ZqY {c a b:Operand} (f:∀ d,(g d).bd n) (i:o.op = .pick c a b) (h:(J6 P E tx tk g o n k).wp P R A ρ):Kr tx P R A ρ g o n k:=by
 simp only [J6,i] at h;split at h
 ·rename_i v j;obtain ⟨l,m⟩:=Zh3 h;have p:=Zm ρ j;have e:=Zm1 i p
  cases hb:v.den ρ with
  | true =>
   rw [hb,P4 rfl] at e;exact Z7 (l hb) (ZM f a) (by rw [YF];exact e)
  | false =>
   rw [hb,P3 (by simp)] at e;exact Z7 (m hb) (ZM f b) (by rw [YF];exact e)
 ·exact h.elim
def Zpy {T:TypeId} (b:o.op = .alloc T) (h:(J6 P E tx tk g o n k).wp P R A ρ):Kr tx P R A ρ g o n k:=by
 simp only [J6,b] at h;split at h
 ·rename_i cs a;obtain ⟨i,z,c,d,e,f⟩:=Zpz ρ n a;exact Z7 h f (ZjZ b c d e)
 ·exact h.elim
def ZtE {T:TypeId} {x:Operand} (e:∀ d,(g d).bd n) (b:o.op = .box T x) (h:(J6 P E tx tk g o n k).wp P R A ρ):Kr tx P R A ρ g o n k:=by
 simp only [J6,b] at h;split at h
 ·rename_i cs a;refine Z7 h (fun c f=>?_) ?_
  ·obtain ⟨y,i,rfl⟩:=Xs.1 f;exact ZbE a (ZM e x) y i
  ·have j:=Zas ρ a;have:=Zpo b (YF P g ρ x).symm j;have l:((SV.box (cs.map .c)).den ρ) = .box (cs.map (SC.den ρ)):=by simp only [SV.den,Uw];rfl
   rw [l];exact this
 ·exact h.elim
def Zha (a:Array (Nat×Operand)):(a.toList.map fun p=>(p.1,getS P (fun d=>(g d).den ρ) p.2))=(a.toList.map fun p=>(p.1,JF P g p.2)).map fun p=>(p.1,p.2.den ρ):=by
 rw [Uw];refine Tb fun p _=>?_;simp only [Function.comp,YF]
def Zi3 (b:∀ d,(g d).bd n) (a:Array (Nat×Operand)):∀ p∈(a.toList.map fun p=>(p.1,JF P g p.2)),p.2.bd n:=by
 intro p c;obtain ⟨q,_,rfl⟩:=Xs.1 c;exact ZM b q.2
def ZhH {T:TypeId} {a:Array (Nat×Operand)} {f t:Nat} {e:TypeId} {l:LE} (N:∀ d,(g d).bd n) (p:∀ i,E.top≤i→g i = .dead) (O:o.op = .build T a) (j:ZhX g a.toList=Xa (f,t,e,l)) (h:(Ze6 P E tx g T f t e l n k).wp P R A ρ):Kr tx P R A ρ g o n k:=by
 have b:a.toList = [(f,.tmp t)]∧g t = .own Xc e l:=by
  unfold ZhX at j;split at j
  ·split at j
   ·rename_i v _ _ _ Q;simp only [Xf,Xw] at j;obtain ⟨rfl,rfl,rfl,rfl⟩:=j;exact ⟨v,Q⟩
   ·cases j
  ·cases j
 obtain ⟨w,x⟩:=b;have m:=N t;rw [x] at m;unfold Ze6 at h;split at h
 ·rename_i fs i S U;split at h
  ·rename_i q;split at h
   ·rename_i z L W C;split at h
    ·rename_i zc us r s;split at h
     ·rename_i M;have v:=KD ρ z.cells.toList;rw [r] at v;have D:ZaL z.cells.toList=Xa (zc.map (SC.den ρ)):=v.symm;obtain ⟨X,rfl,Y,G,q3⟩:=Yz ρ p (t:=t) x s;refine ZcK h (fun c H=>?_) (Yw s m) ?_
      ·rcases UR H with H | rfl
       ·obtain ⟨y,Z,rfl⟩:=Xs.1 H;exact VK r y Z
       ·exact m
      ·have J:Yv tx (fun d=>(g d).den ρ) t (us.tail.map fun u=>(u.1,u.2.den ρ)):=by
        rcases G with ⟨h0,_⟩ | G
        ·cases h0
        ·exact G
       have:=Zc6 (zc:=zc.map (SC.den ρ)) O w S U W D q C M.1 (by simpa using M.2) (show (fun d=>(g d).den ρ) t = .own Xc e (l.den ρ) by show (g t).den ρ=_;rw [x];rfl) J;rw [Y]
       have he:(SV.aggo ((zc.map .c).set L.offset (.own Xc e l))).den ρ = .aggo ((zc.map (SC.den ρ)).set L.offset (.own Xc e (l.den ρ))):=by
        simp only [SV.den,Tg,Uw];rfl
       rw [he];exact this
     ·exact h.elim
    ·exact h.elim
   ·exact h.elim
  ·exact h.elim
 ·exact h.elim
def ZoI {T:TypeId} {a:Array (Nat×Operand)} (q:∀ d,(g d).bd n) (b:∀ i,E.top≤i→g i = .dead) (p:o.op = .build T a) (h:(J6 P E tx tk g o n k).wp P R A ρ):Kr tx P R A ρ g o n k:=by
 simp only [J6,p] at h;split at h
 ·rename_i f t e l s;exact ZhH q b p s h
 split at h
 ·rename_i x i u v;split at h
  ·rename_i c;split at h
   ·rename_i z w;split at h
    ·rename_i zc j;split at h
     ·rename_i cs m;refine Z7 h (Zeu _ _ _ _ (VK j) (Zi3 q a) m) ?_;have r:=KD ρ z.cells.toList;rw [j] at r;refine Zj7 p u v w r.symm c ?_;rw [Zha];exact Zcj ρ _ _ _ _ m
     ·exact h.elim
    ·exact h.elim
   ·exact h.elim
  ·exact h.elim
 ·exact h.elim
def Wr {w:World} {lim:Nat→Nat} {f g:Bool} {s e:Nat} {v:Value} (i:g=Xc→f=Xc) (h:Rep w lim (.slice f s []) v):Rep w lim (.slice g e []) v:=by
 have d:∀ (y:AV),Rep w lim y v→y = .slice f s []→Rep w lim (.slice g e []) v:=by
  intro y j c
  cases j with
  | sliceN => exact .sliceN
  | @sliceE f' s2 a cap hf =>
   injection c with h1 h2 h3;exact .sliceE fun h=>hf (h1.trans (i h))
  | @sliceC f' s2 xs b o cap us hs hc hf hle hlim hus hcell hr =>
   injection c with h1 h2 h3;subst h3;exact .sliceE fun h=>by have:=hf (h1.trans (i h));simpa using this
  | val _ => cases c
  | agg _ _ _ => cases c
 exact d _ h rfl
def Zh9 {w:World} {lim:Nat→Nat} {f:Bool} {s:Nat} {xs:List (List AV)} {v:Value} (h:Rep w lim (.slice f s xs) v):Rep w lim (.slice Xb s xs) v:=by
 have d:∀ (y:AV),Rep w lim y v→y = .slice f s xs→Rep w lim (.slice Xb s xs) v:=by
  intro y e c
  cases e with
  | sliceN => injection c with h1 h2 h3; subst h3; exact .sliceN
  | @sliceE f' s2 a cap hf => injection c with h1 h2 h3; subst h3; exact .sliceE fun h => by cases h
  | @sliceC f' s2 xs b o cap us hs hc hf hle hlim hus hcell hr =>
   injection c with h1 h2 h3;subst h2;subst h3;exact .sliceC hs hc (fun h=>by cases h) hle hlim hus hcell hr
  | val _ => cases c
  | agg _ _ _ => cases c
 exact d _ h rfl
def ZoG (ρ:Nat→V) {s:Sh} {c b:SC} (h:Zm3 s c=Xa b):∀ (w:World) (lim:Nat→Nat) (u:Value),Rep w lim (c.den ρ) u→Rep w lim (b.den ρ) u:=by
 unfold Zm3 at h;split at h
 ·split at h
  ·simp only [Xf] at h;subst h;rename_i d;subst d;exact fun w lim u a=>Zh9 a
  ·split at h
   ·simp only [Xf] at h;subst h;exact fun w lim u a=>Wr (fun h=>by cases h) a
   ·cases h
 ·simp only [Xf] at h;subst h;exact fun _ _ _ h=>h
def ZpE {n:Nat} {s:Sh} {c a:SC} (h:Zm3 s c=Xa a) (b:c.bd n):a.bd n:=by
 unfold Zm3 at h;split at h
 ·split at h
  ·simp only [Xf] at h;subst h;exact b
  ·split at h
   ·simp only [Xf] at h;subst h;trivial
   ·cases h
 ·simp only [Xf] at h;subst h;exact b
def VP {n:Nat} : ∀ (l:List Sh) (cs a:List SC),YY l cs=Xa a→(∀ c∈cs,c.bd n)→∀ c∈a,c.bd n
 | [], [], _, h, _ => by simp only [YY, Xf] at h; subst h; simp
 | [], _ :: _, _, h, _ => by simp [YY] at h
 | _ :: _, [], _, h, _ => by simp [YY] at h
 | s :: ss, c :: cs, r, h, hb => by
  simp only [YY] at h;split at h
  ·rename_i v vs e b;simp only [Xf] at h;subst h;intro x d;rcases Xr.1 d with rfl | d
   ·exact ZpE e (hb c (by simp))
   ·exact VP ss cs vs b (fun y f=>hb y (by simp [f])) x d
  ·cases h
def Zgr (ρ:Nat→V):∀ (l:List Sh) (cs a:List SC),YY l cs=Xa a→a.length=cs.length∧∀ (i:Nat) (c:SC),a[i]? = Xa c→∃ e,cs[i]? = Xa e∧∀ (w:World) (lim:Nat→Nat) (u:Value),Rep w lim (e.den ρ) u→Rep w lim (c.den ρ) u
 | [], [], _, h => by simp only [YY, Xf] at h; subst h; exact ⟨rfl, by simp⟩
 | [], _ :: _, _, h => by simp [YY] at h
 | _ :: _, [], _, h => by simp [YY] at h
 | s :: ss, c :: cs, r, h => by
  simp only [YY] at h;split at h
  ·rename_i v vs f b;simp only [Xf] at h;subst h;obtain ⟨j,m⟩:=Zgr ρ ss cs vs b;refine ⟨by simp [j],fun i x d=>?_⟩
   cases i with
   | zero =>
    simp only [XM,Xf] at d;subst d;exact ⟨c,rfl,ZoG ρ f⟩
   | succ i => exact m i x (by simpa using d)
  ·cases h
def Zah (ρ:Nat→V) (l:List Sh) (cs a:List SC) (h:YY l cs=Xa a):(a.map (SC.den ρ)).length=(cs.map (SC.den ρ)).length∧
  ∀ (w:World) (lim:Nat→Nat) (us:List Value),Ys w lim (cs.map (SC.den ρ)) us→Ys w lim (a.map (SC.den ρ)) us:=by
 obtain ⟨d,f⟩:=Zgr ρ l cs a h;refine ⟨by simp [d],fun w lim us e=>⟨by rw [← e.1];simp [d],fun x b=>?_,fun i x u b j=>?_⟩⟩
 ·obtain ⟨y,_,rfl⟩:=Xs.1 b;exact Zkj ρ y
 ·rw [Xp] at b
  cases hc:a[i]? with
  | none => rw [hc] at b; cases b
  | some c =>
   rw [hc] at b;simp only [XA,Xf] at b;subst b;obtain ⟨q,m,p⟩:=f i c hc;exact p w lim u (e.2.2 i _ u (by rw [Xp,m];rfl) j)
def Zht (ρ:Nat→V) (s:Sh) (c:SC):(∀ n,c.bd n→(Ztk s c).bd n)∧((c.den ρ).isCell=Xc→((Ztk s c).den ρ).isCell=Xc)∧∀ (w:World) (lim:Nat→Nat) (u:Value),Rep w lim (c.den ρ) u→Rep w lim ((Ztk s c).den ρ) u:=by
 unfold Ztk;split
 ·exact ⟨fun _ h=>h,fun _=>rfl,fun w lim u h=>Wr (fun h=>h) h⟩
 ·exact ⟨fun _ h=>h,fun h=>h,fun _ _ _ h=>h⟩
def ZhG (ρ:Nat→V):∀ (l:List Sh) (cs:List SC),(Zo2 l cs).length=cs.length∧∀ (i:Nat) (c:SC),(Zo2 l cs)[i]? = Xa c→∃ a s,cs[i]? = Xa a∧(c=a∨c=Ztk s a)
 | [], cs => by cases cs <;> exact ⟨rfl, fun i c h => ⟨c, .bool, h, .inl rfl⟩⟩
 | s :: ss, [] => ⟨rfl, fun i c h => by simp [Zo2] at h⟩
 | s :: ss, c :: cs => by
  obtain ⟨d,e⟩:=ZhG ρ ss cs;refine ⟨by simp [Zo2,d],fun i x b=>?_⟩
  cases i with
  | zero =>
   simp only [Zo2,XM,Xf] at b;exact ⟨c,s,rfl,.inr b.symm⟩
  | succ i => exact e i x (by simpa [Zo2] using b)
def Zv8 {n:Nat} (P:Program) (T:TypeId) {vc:List SC} (h:∀ c∈vc,c.bd n):∀ c∈nrm P T vc,c.bd n:=by
 unfold nrm;split
 ·rename_i sh _;intro c d;obtain ⟨i,f⟩:=X6.1 d;obtain ⟨a,s,b,e | e⟩:=(ZhG (fun _=>.i 0) sh vc).2 i c f
  ·rw [e];exact h a (Xo b)
  ·rw [e];exact (Zht (fun _=>.i 0) s a).1 n (h a (Xo b))
 ·exact h
def ZuW (ρ:Nat→V) (P:Program) (T:TypeId) (vc:List SC):((nrm P T vc).map (SC.den ρ)).length=(vc.map (SC.den ρ)).length∧
  ∀ (w:World) (lim:Nat→Nat) (us:List Value),Ys w lim (vc.map (SC.den ρ)) us→Ys w lim ((nrm P T vc).map (SC.den ρ)) us:=by
 unfold nrm;split
 ·rename_i sh _;obtain ⟨l,p⟩:=ZhG ρ sh vc
  have f:∀ (i:Nat) (x:AV),((Zo2 sh vc).map (SC.den ρ))[i]? = Xa x→∃ a,(vc.map (SC.den ρ))[i]? = Xa a∧(a.isCell=Xc→x.isCell=Xc)∧∀ (w:World) (lim:Nat→Nat) (u:Value),Rep w lim a u→Rep w lim x u:=by
   intro i x b;rw [Xp] at b;obtain ⟨c,q,rfl⟩:=U5.1 b;obtain ⟨m,s,d,e | e⟩:=p i c q
   ·subst e;exact ⟨_,by rw [Xp,d];rfl,fun h=>h,fun _ _ _ h=>h⟩
   ·subst e;exact ⟨_,by rw [Xp,d];rfl,(Zht ρ s m).2.1,(Zht ρ s m).2.2⟩
  refine ⟨by simp [l],fun w lim us j=>⟨by rw [← j.1];simp [l],fun x b=>?_,fun i x u b r=>?_⟩⟩
  ·obtain ⟨i,t⟩:=X6.1 b;obtain ⟨a,d,v,_⟩:=f i x t;exact v (j.2.1 a (Xo d))
  ·obtain ⟨a,d,_,y⟩:=f i x b;exact y w lim u (j.2.2 i a u d r)
 ·exact ⟨rfl,fun _ _ _ h=>h⟩
def ZhN (o:BC) (x:SC):ZpB o x = .c x∨∃ e s,ZpB o x = .own Xc e .nil∧x = .slice Xc s .nil:=by
 unfold ZpB;split
 ·exact .inr ⟨_,_,rfl,rfl⟩
 ·exact .inl rfl
def Zd0:∀ (a:List BC) (xs:List SC),(YR a xs).length=xs.length
 | [], xs => by simp [YR]
 | _ :: _, [] => rfl
 | _ :: a, _ :: xs => by simp [YR, Zd0 a xs]
def Zaa:∀ (a:List BC) (xs:List SC) (i:Nat) (y:BC),(YR a xs)[i]? = Xa y→∃ x,xs[i]? = Xa x∧(y = .c x∨∃ e s,y = .own Xc e .nil∧x = .slice Xc s .nil)
 | [], xs, i, y, h => by
  simp only [YR,Xp] at h;obtain ⟨x,b,rfl⟩:=U5.1 h;exact ⟨x,b,.inl rfl⟩
 | _ :: _, [], i, y, h => by simp [YR] at h
 | o :: _, x :: _, 0, y, h => by
  simp only [YR,XM,Xf] at h;subst h;exact ⟨x,rfl,ZhN o x⟩
 | o :: a, x :: xs, i + 1, y, h => by
  simp only [YR,Uv] at h;obtain ⟨d,f,j⟩:=Zaa a xs i y h;exact ⟨d,by simpa using f,j⟩
def ZnG {n:Nat} (a:List BC) (xs:List SC) (h:∀ c∈xs,c.bd n):∀ c∈YR a xs,c.bd n:=by
 intro c b;obtain ⟨i,d⟩:=X6.1 b;obtain ⟨x,f,rfl | ⟨e,s,rfl,rfl⟩⟩:=Zaa a xs i c d
 ·exact h x (Xo f)
 ·trivial
def Zrk {P:Program} (ρ:Nat→V) (c:List BC) {b:List AV} {xs:List SC}
  (h:(xs.map (SC.den ρ)).length=b.length∧∀ (w:World) (lim:Nat→Nat) (us:List Value),Ys w lim b us→Ys w lim (xs.map (SC.den ρ)) us) :
  ((YR c xs).map (BC.den ρ)).length=b.length∧∀ (w:World) (lim:Nat→Nat) (us:List Value),Ys w lim b us→
   (∀ z∈(YR c xs).map (BC.den ρ),Zb2 z)∧∀ (j:Nat) (z:AV) (u:Value),((YR c xs).map (BC.den ρ))[j]? = Xa z→us[j]? = Xa u→Yn P w lim Xe z u:=by
 refine ⟨by rw [Xi,Zd0,← h.1,Xi],fun w lim us d=>?_⟩;have d:=h.2 w lim us d;refine ⟨fun z f=>?_,fun j z u f r=>?_⟩
 ·obtain ⟨y,l,rfl⟩:=Xs.1 f;obtain ⟨i,t⟩:=X6.1 l;obtain ⟨x,m,rfl | ⟨e,s,rfl,rfl⟩⟩:=Zaa c xs i y t
  ·exact .inl (d.2.1 _ (Xs.2 ⟨x,Xo m,rfl⟩))
  ·exact .inr (.inl ⟨_,_,_,rfl⟩)
 ·rw [Xp] at f;obtain ⟨y,l,rfl⟩:=U5.1 f;obtain ⟨x,m,v⟩:=Zaa c xs j y l;have p:(xs.map (SC.den ρ))[j]? = Xa (x.den ρ):=by rw [Xp,m];rfl
  have q:=d.2.1 _ (Xo p);have a:=d.2.2 j _ u p r;rcases v with rfl | ⟨e,s,rfl,rfl⟩
  ·show Yn P w lim Xe (x.den ρ) u
   cases hxd:x.den ρ<;>rw [hxd] at q a<;>simp [AV.isCell] at q<;>exact a
  ·exact ZbK (s:=s) a
def Zfb {T:TypeId} {p:Nat} {a:Array (Nat×Operand)} (u:∀ d,(g d).bd n) (r:o.op = .buildSlice T p a) (h:(J6 P E tx tk g o n k).wp P R A ρ):Kr tx P R A ρ g o n k:=by
 simp only [J6,r] at h;split at h
 ·rename_i e v;split at h
  ·rename_i i w;split at h
   ·rename_i z y;split at h
    ·rename_i zc f;split at h
     ·rename_i q;split at h
      ·rename_i cs sh j C;split at h
       ·rename_i D b
        have G:∀ c∈cs,c.bd n:=Zeu _ _ _ _ (fun c m=>by
         obtain ⟨l,H,m⟩:=Tn.1 m;rw [(UJ.1 H).2] at m;exact VK f c m) (Zi3 u a) j
        refine Z7 h (x:=.own _ e _) (Zqh _ _ (VP _ _ _ b G) _) ?_;have s:=KD ρ z.cells.toList;rw [f] at s;have t:=Zcj ρ _ _ _ _ j;rw [← Zha,List.map_flatten,List.map_replicate] at t;have:=ZcW (E.exO o) r v w y s.symm q.1 q.2.1 q.2.2 t (Zah ρ _ _ _ b);rw [← Zlx] at this;exact this
       ·exact h.elim
      ·exact h.elim
     ·exact h.elim
    ·exact h.elim
   ·exact h.elim
  ·exact h.elim
 ·exact h.elim
def ZoW (ρ:Nat→V) (x:SC):Yu P (x.den ρ)=x.den ρ:=by cases x<;>rfl
def Zq1 {T:TypeId} {a:Operand} (W:∀ d,(g d).bd n) (L:∀ i,E.top≤i→g i = .dead) (r:o.op = .load T a) (h:(J6 P E tx tk g o n k).wp P R A ρ):Kr tx P R A ρ g o n k:=by
 have U:=ZM (P:=P) W a;simp only [J6,r] at h;split at h
 ·rename_i d off m f;split at h
  ·rename_i cs v;split at h
   ·rename_i j;have C:=W d;rw [v] at C;refine ZcK h (fun c w=>?_) (by simp) ?_
    ·obtain ⟨y,hy,rfl⟩:=Xs.1 w;exact Zlc (C y (XR (XL hy)))
    ·have:Vr tx P o (fun d=>(g d).den ρ) (.agg (((((cs.map (BC.den ρ)).drop off).take (P.cellsOf T))).map (Yu P))) [] (fpL tx d off (P.cellsOf T)):=by
      unfold fpL;split
      ·rename_i G;simp only [Xk,P5,XE,Uf] at G;exact W6 (cs:=cs.map (BC.den ρ)) r m (Zm ρ f) (by rw [v];rfl) (by simpa using j.1) (V9 j.2.1 ρ) (ZdQ j.2.2 ρ) G.1 G.2
      ·exact (WO (cs:=cs.map (BC.den ρ)) r m (Zm ρ f) (by rw [v];rfl) (by simpa using j.1) (V9 j.2.1 ρ) (ZdQ j.2.2 ρ)).t
     have he:(SV.agg (((cs.drop off).take (P.cellsOf T)).map (ZdP P))).den ρ = .agg (((((cs.map (BC.den ρ)).drop off).take (P.cellsOf T))).map (Yu P)):=by
      simp only [SV.den,Uw,← Um,← Uq];congr 1;exact Tb fun b _=>ZdV P ρ b
     rw [he];exact this
   ·exact h.elim
  ·exact h.elim
 ·rename_i d off m f;split at h
  ·rename_i cs v;have C:=W d;rw [v] at C;have H:(fun d=>(g d).den ρ) d = .box (cs.map (BC.den ρ)):=by show (g d).den ρ=_;rw [v];rfl
   split at h
   ·rename_i b e xs D;have p:(cs.map (BC.den ρ))[off]? = Xa (.own b e (xs.den ρ)):=by rw [Xp,D];rfl
    have z:=C _ (Xo D);split at h
    ·split at h
     ·rename_i us _ X;obtain ⟨q1,q2⟩:=ZlP ρ L X;split at h
      case isFalse=>exact h.elim
      rename_i Y;refine ZcK h z (fun u J=>?_) ?_
      ·rcases Xq.1 J with J | J
       ·rw [q1 u J];trivial
       ·rw [XF] at J;subst J;intro c w;rcases UR w with w | rfl
        ·exact C c w
        ·trivial
      ·have:=Zdd (T':=tx) r m (Zm ρ f) H p q2 (Zju ρ Y);rw [Us];simp only [Xn,X5,SV.den,Tg];exact this
     ·exact Z7 h trivial (Ze0 r m (Zm ρ f) H p)
    ·split at h
     ·refine Zb7 h z (us1 (fun c w=>?_)) ?_
      ·rcases UR w with w | rfl
       ·exact C c w
       ·exact z
      ·have:=ZeP r m (Zm ρ f) H p;simp only [Xn,X5,SV.den,Tg];exact this
     ·exact Z7 h z (KH r m (Zm ρ f) H p (fun e xs h=>by cases h) (fun h=>by cases h))
   ·rename_i x D;have p:(cs.map (BC.den ρ))[off]? = Xa (x.den ρ):=by rw [Xp,D];rfl
    have:Vr tx P o (fun d=>(g d).den ρ) (Yu P (x.den ρ)) [] (fpL tx d off 1):=by
     unfold fpL;split
     ·rename_i G;simp only [Xk,P5,XE,Uf] at G;exact Ws r m (Zm ρ f) H p (fun e xs h=>by cases x<;>cases h) (fun h=>by cases x<;>cases h) (by simpa using G.2 0 (by omega))
     ·exact (KH r m (Zm ρ f) H p (fun e xs h=>by cases x<;>cases h) (fun h=>by cases x<;>cases h)).t
    rw [ZoW] at this;exact ZcK h (C _ (Xo D)) (by simp) this
   ·exact h.elim
   ·exact h.elim
  ·exact h.elim
 ·rename_i agg d q i s off m f;split at h
  ·rename_i e l hp;split at h
   ·rename_i sh ab;split at h
    ·rename_i hh;obtain ⟨rfl,h2,h3,h4,M⟩:=hh;obtain ⟨vs,w1,w2,w3⟩:=h;have N:=Yb sh n;have O:=Jn ρ hp
     have aa:(Z9 sh n).length=P.cellsOf e:=by
      have Z:∀ (l:List Sh) (n:Nat),(Z9 l n).length=l.length:=by
       intro l
       induction l with
       | nil => intro n; rfl
       | cons s l ih => intro n; simp only [Z9, XO, ih]
      rw [Z,h2]
     refine ⟨bind ρ n vs,n+sh.length,_,[],[d],Tq _ _,Zfc ρ n vs,?_,by simp,w3,?_⟩
     ·cases agg with
      | true => exact fun c w => N c (XR (XL w))
      | false =>
       show SV.bd _ (match (Z9 sh n)[off]? with | some x=>.c x | none=>.dead);split
       ·rename_i x D;exact N x (Xo D)
       ·trivial
     ·cases agg with
      | true =>
       have:=WQ r m (Zm ρ f) (show Zy ((fun d=>(g d).den ρ) d) q=_ from O) w2 h3 M;rw [← Uq,← Um] at this;exact this.t
      | false =>
       have ac:P.cellsOf T=1∨off < (Z9 sh n).length:=.inr (by omega);have Q:off < (Z9 sh n).length:=by omega
       show Vr tx P o _ ((match (Z9 sh n)[off]? with | some x=>SV.c x | none=>.dead).den (bind ρ n vs)) _ _;rw [Xm Q];exact (WM r m (Zm ρ f) (show Zy ((fun d=>(g d).den ρ) d) q=_ from O) w2 (by omega) (by rw [Xp,Xm Q];rfl) M).t
    ·exact h.elim
   ·exact h.elim
  ·exact h.elim
 ·rename_i cs m f;rw [f] at U;split at h
  ·rename_i j;refine Z7 h (fun c w=>U c (XL w)) ?_;have:=Zdc (cs:=cs.map (SC.den ρ)) r m (Zm ρ f) (by simpa using j);rw [← Um] at this;exact this
  ·exact h.elim
 ·rename_i cs m f;rw [f] at U;split at h
  ·rename_i x S;exact Z7 h (U x (by simp)) (Zcm (cs:=S.map (SC.den ρ)) r m (Zm ρ f))
  ·exact h.elim
 ·exact h.elim
def Zo0 {T:TypeId} {a x:Operand} (y:∀ d,(g d).bd n) (m:∀ i,E.top≤i→g i = .dead) (H:o.op = .store T a x) (h:(J6 P E tx tk g o n k).wp P R A ρ):Kr tx P R A ρ g o n k:=by
 have X:=ZM (P:=P) y x;simp only [J6,H] at h;split at h
 ·rename_i d off C;split at h
  ·rename_i cs J;have D:=y d;rw [J] at D;have N:(fun d=>(g d).den ρ) d = .box (cs.map (BC.den ρ)):=by show (g d).den ρ=_;rw [J];rfl
   split at h
   ·rename_i t b e xs z r;have O:x = .tmp t:=by cases x<;>simp [Z8] at z;rw [z]
    subst O;simp only [Z8,XA,Xf] at r;have G:=y t;rw [r] at G;split at h
    ·rename_i us L;split at h
     ·rename_i j;obtain ⟨Z,rfl,q1,q2,q3⟩:=Yz ρ m (t:=t) r L;refine ZcK h trivial (fun u v=>?_) ?_
      ·rcases Xq.1 v with v | v
       ·exact Yw L G u v
       ·rw [XF] at v;subst v;intro c f;rcases UR f with f | rfl
        ·exact D c f
        ·exact G
      ·have:=Zdf (T':=tx) (e:=e) (xs:=xs.den ρ) H (Zm ρ C) N (by show (g t).den ρ=_;rw [r];rfl) j.1 (by simpa using j.2.1) (Zim ρ m j.2.2) q2;rw [Us,q1];simp only [Xn,X5,SV.den,Tg];exact this
     ·exact h.elim
    ·exact h.elim
   ·rename_i t vc z r;have O:x = .tmp t:=by cases x<;>simp [Z8] at z;rw [z]
    subst O;simp only [Z8,XA,Xf] at r;have G:=y t;rw [r] at G;split at h
    ·rename_i j;refine Zb7 h trivial (us2 trivial (fun c f=>?_)) ?_
     ·rcases Xq.1 f with f | f
      ·rcases Xq.1 f with f | f
       ·exact D c (XL f)
       ·exact G c f
      ·exact D c (XR f)
     ·have:=ZcJ (vc:=vc.map (BC.den ρ)) H (Zm ρ C) N (show (fun d=>(g d).den ρ) t = .aggo (vc.map (BC.den ρ)) by show (g t).den ρ=_;rw [r];rfl) (by simpa using j.1) (by omega) (by simpa using j.2.2.1) (V9 j.2.2.2 ρ)
      have Q:(SV.box (cs.take off++vc++cs.drop (off+P.cellsOf T))).den ρ = .box ((cs.map (BC.den ρ)).take off++vc.map (BC.den ρ)++(cs.map (BC.den ρ)).drop (off+P.cellsOf T)):=by
       simp only [SV.den,Us,Um,Uq]
      simp only [Xn,X5,Q];exact this
    ·exact h.elim
   ·split at h
    ·rename_i vc p;split at h
     ·rename_i j;refine ZcK h trivial (fun u v=>?_) ?_
      ·rw [XF] at v;subst v;intro c f;rcases Xq.1 f with f | f
       ·rcases Xq.1 f with f | f
        ·exact D c (XL f)
        ·exact ZnG _ _ (Zv8 P T (ZbE p X)) c f
       ·exact D c (XR f)
      ·have:=Zky (vc:=(YR (cs.drop off) (nrm P T vc)).map (BC.den ρ)) H (Zm ρ C) N (YF P g ρ x).symm (Zas ρ p) (by simpa using j.1) (by omega) (by simpa using j.2.2.1) (Zim ρ m j.2.2.2) (Zrk ρ (cs.drop off) (ZuW ρ P T vc))
       have Q:(SV.box (cs.take off++YR (cs.drop off) (nrm P T vc)++cs.drop (off+P.cellsOf T))).den ρ = .box ((cs.map (BC.den ρ)).take off++(YR (cs.drop off) (nrm P T vc)).map (BC.den ρ)++(cs.map (BC.den ρ)).drop (off+P.cellsOf T)):=by
        simp only [SV.den,Us,Um,Uq]
       simp only [Xn,X5,Q];exact this
     ·exact h.elim
    ·exact h.elim
  ·exact h.elim
 ·rename_i d q i s off C;split at h
  ·rename_i e l vc Y p;have M:=ZM (P:=P) y a;rw [C] at M;have S:=Jn ρ Y;split at h
   ·rename_i sh aa;split at h
    ·rename_i vc' w;split at h
     ·rename_i j;obtain ⟨r1,r2,h⟩:=h;have ab:0≤i.den ρ:=r1;have ac:i.den ρ < ((l.den ρ).length:Int):=r2;have U:=VP _ _ _ w (ZbE p X);refine Zb7 h trivial (us1 (Wp (y d) ⟨Kd Y (y d),M,Zc3 _ U⟩)) ?_;obtain ⟨z,r,h3,h4,h5,W⟩:=j;subst z;have:=ZbS (vc:=vc.map (SC.den ρ)) (vc':=vc'.map (SC.den ρ)) H (Zm ρ C) (show Zy ((fun d=>(g d).den ρ) d) q=_ from S) (Zib ρ h5) (YF P g ρ x).symm (Zas ρ p) (by simpa using r) (by omega) (by omega) h4 (Zah ρ _ _ _ w) W;rw [← Zaq] at this;simp only [Xn,X5,VT];exact this
     ·exact h.elim
    ·exact h.elim
   ·exact h.elim
  ·exact h.elim
 ·exact h.elim
def Zhy {x:Operand} (j:∀ d,(g d).bd n) (b:o.op = .nilCheck x) (h:(J6 P E tx tk g o n k).wp P R A ρ):Kr tx P R A ρ g o n k:=by
 have c:=ZM (P:=P) j x;simp only [J6,b] at h;split at h
 ·rename_i d off a;exact Z7 h trivial (K0 b (Zm ρ a) (.inl ⟨_,_,rfl⟩))
 ·rename_i cs a;rw [a] at c;exact Z7 h c (K0 b (Zm ρ a) (.inr (.inl ⟨_,rfl⟩)))
 ·rename_i d q i s off a;rw [a] at c;split at h
  ·rename_i e l f;split at h
   ·rename_i m;exact Z7 h c (K0 b (Zm ρ a) (.inr (.inr ⟨_,_,_,_,_,rfl,Jn ρ f,m,by simp⟩)))
   ·exact h.elim
  ·exact h.elim
 ·exact h.elim
def ZqW {op:UnOp} {T:TypeId} {x:Operand} (i:∀ d,(g d).bd n) (f:o.op = .unOp op T x) (h:(J6 P E tx tk g o n k).wp P R A ρ):Kr tx P R A ρ g o n k:=by
 have c:=ZM (P:=P) i x;simp only [J6,f] at h;split at h
 ·rename_i b a;rw [a] at c;refine Z7 h (Zo4 c) ?_;have:=Zpa f (Zm ρ a);rw [← ZmQ] at this;exact this
 ·rename_i kd e a;rw [a] at c;exact Z7 h ⟨trivial,c⟩ (Zn0 f (Zm ρ a))
 ·rename_i kd e a;rw [a] at c;exact Z7 h ⟨trivial,c⟩ (Zkg f (Zm ρ a))
 ·exact h.elim
def Zkq {S T:TypeId} {x:Operand} (i:∀ d,(g d).bd n) (c:o.op = .convert S T x) (h:(J6 P E tx tk g o n k).wp P R A ρ):Kr tx P R A ρ g o n k:=by
 have b:=ZM (P:=P) i x;simp only [J6,c] at h;split at h
 ·rename_i e f a;rw [a] at b;exact Z7 h b (ZkL c e f (Zm ρ a))
 ·rename_i e f a;rw [a] at b;split at h
  ·rename_i j;split at h
   ·rename_i l;subst l;exact Z7 h.2 b (Zj5 c e j f (Zm ρ a) h.1)
   ·exact h.elim
  ·exact h.elim
 ·exact h.elim
def Zg1 {T:TypeId} {x:Operand} {f:Nat} (t:∀ d,(g d).bd n) (j:o.op = .fieldAddr T x f) (h:(J6 P E tx tk g o n k).wp P R A ρ):Kr tx P R A ρ g o n k:=by
 have m:=ZM (P:=P) t x;simp only [J6,j] at h;split at h
 ·rename_i b a;exact Z7 h trivial (Zc7 j b (Zm ρ a))
 ·rename_i off cs b a;rw [a] at m;refine Z7 h (fun c u=>m c (XR u)) ?_;have:=Zcv (cs:=cs.map (SC.den ρ)) j b (Zm ρ a);rw [← Uq] at this;exact this
 ·rename_i off d q i s r b a;rw [a] at m;split at h
  ·rename_i e l p;split at h
   ·rename_i v;refine Z7 h m ?_;have:=ZbM j b (Zm ρ a) (Jn ρ p) v;rw [Uy] at this;exact this
   ·exact h.elim
  ·exact h.elim
 ·exact h.elim
def ZoR {T:TypeId} {x:Operand} {f:Nat} (q:∀ d,(g d).bd n) (i:o.op = .field T x f) (h:(J6 P E tx tk g o n k).wp P R A ρ):Kr tx P R A ρ g o n k:=by
 have j:=ZM (P:=P) q x;simp only [J6,i] at h;split at h
 ·rename_i off agg r cs l m p;rw [p] at j;split at h
  ·rename_i b;have a:getS P (fun d=>(g d).den ρ) x = .agg (cs.map (SC.den ρ)):=Zm ρ p
   cases agg with
   | true =>
    simp only at h;refine Z7 h (fun c e=>j c (XR (XL e))) ?_;have:=Zb4 (y:=.agg (((cs.map (SC.den ρ)).drop off).take r)) i l m a (by simpa using b.1) b.2 (.inl ⟨rfl,rfl⟩);rw [← Uq,← Um] at this;exact this
   | false =>
    simp only at h;split at h
    ·rename_i c e;refine Z7 h (j c (Xo e)) ?_;exact Zb4 (y:=c.den ρ) i l m a (by simpa using b.1) b.2 (.inr ⟨rfl,by simp [e],by cases c<;>rfl⟩)
    ·exact h.elim
  ·exact h.elim
 ·exact h.elim
def Zi2 {a:IE} {d off s m:Nat} {e:SV→STree} : ∀ (j:Nat),j≤m→(Zri a d off s m e j).wp P R A ρ→∃ i:Nat,i < m∧a.den ρ=(i:Int)∧(e (.ptr d (off+i*s))).wp P R A ρ
 | 0, _, h => h.elim
 | 1, hj, h => by
  obtain ⟨b,c,f⟩:=h;have l:((m-1:Nat):Int)≤a.den ρ:=b;have p:a.den ρ≤((m-1:Nat):Int):=c;exact ⟨m-1,by omega,by omega,f⟩
 | j + 2, hj, h => by
  obtain ⟨b,c⟩:=h;by_cases he:a.den ρ=((m-(j+2):Nat):Int)
  ·exact ⟨m-(j+2),by omega,he,b (by simp [BE.den,IE.den,P0,he])⟩
  ·exact Zi2 (j+1) (by omega) (c (by simp [BE.den,IE.den,P0,he]))
def Zhc {T:TypeId} {x i:Operand} (D:∀ d,(g d).bd n) (f:o.op = .indexAddr T x i) (h:(J6 P E tx tk g o n k).wp P R A ρ):Kr tx P R A ρ g o n k:=by
 simp only [J6,f] at h;split at h
 ·rename_i b c a;split at h
  ·rename_i sh G;split at h
   ·rename_i j;obtain ⟨vs,w,p,r⟩:=h
    exact ⟨bind ρ n vs,n+sh.length,.eptr (Z9 sh n),[],[],Tq _ _,Zfc ρ n vs,Yb sh n,by simp,r,
     (Zkl f b j.1 (by omega) (Zm ρ c) (Zm ρ a) w p).t⟩
   ·exact h.elim
  ·exact h.elim
 ·rename_i m e d off kd s b c a;split at h
  ·rename_i j;split at h
   ·rename_i z;split at h
    ·rename_i y;exact Z7 h trivial (Wk (kd:=kd) (z:=z) f b (by omega) (Zm ρ c) (Zm ρ a) y.1 y.2)
    ·exact h.elim
   ·obtain ⟨H,w,p,r⟩:=Zi2 m (Xt _) h;have:=Wk (kd:=kd) (z:=(H:Int)) f b (by omega) (Zm ρ c) (by rw [← p];exact Zm ρ a) (by omega) (by omega);rw [Int.toNat_natCast] at this;exact Z7 r trivial this
  ·exact h.elim
 ·rename_i e d q kd s b c a;split at h
  ·rename_i e' l J;split at h
   ·rename_i j;obtain ⟨rfl,O,u⟩:=j;obtain ⟨L,M,h⟩:=h;have v:0≤s.den ρ:=L;have N:s.den ρ < ((l.den ρ).length:Int):=M;have C:=ZM (P:=P) D i;rw [a] at C;exact Z7 h C (ZcV f b (by omega) (Zm ρ c) (show Zy ((fun d=>(g d).den ρ) d) q=_ from Jn ρ J) (Zm ρ a) v (by omega) u)
   ·exact h.elim
  ·exact h.elim
 ·exact h.elim
def ZrH {T:TypeId} {a b:Operand} (v:∀ d,(g d).bd n) (q:o.op = .makeSlice T a b) (h:(J6 P E tx tk g o n k).wp P R A ρ):Kr tx P R A ρ g o n k:=by
 simp only [J6,q] at h;split at h
 ·rename_i m m' r w;split at h
  ·rename_i e y;have s:=ZM (P:=P) v a;rw [r] at s;split at h
   ·rename_i i C;split at h
    ·rename_i z D;split at h
     ·rename_i zc sh f G;split at h
      ·rename_i zc' c;split at h
       ·rename_i j;have t:=KD ρ z.cells.toList;rw [f] at t;obtain ⟨u,H,J,h⟩:=h;have L:m.den ρ≤m'.den ρ:=H;have M:m'.den ρ≤m.den ρ:=J;have l:m'.den ρ=m.den ρ:=by omega
        refine Z7 h (x:=.own (!(E.exO o)) e _) ⟨s,Zc3 _ (VP _ _ _ c (VK f))⟩ ?_;have p:getS P (fun d=>(g d).den ρ) b = .val (.int .i64 (m.den ρ)):=by rw [← l];exact Zm ρ w
        have:=Zmk (!(E.exO o)) (zc:=zc.map (SC.den ρ)) (zc':=zc'.map (SC.den ρ)) q y C D j t.symm (Zm ρ r) p u.1 u.2 (Zah ρ _ _ _ c);rw [← Zaq] at this;exact this
       ·exact h.elim
      ·exact h.elim
     ·exact h.elim
    ·exact h.elim
   ·exact h.elim
  ·exact h.elim
 ·exact h.elim
def ZoX {T:TypeId} {x:Operand} {N v D:Option Operand} (G:∀ d,(g d).bd n) (Q:∀ i,E.top≤i→g i = .dead) (w:o.op = .slice T x N v D) (h:(J6 P E tx tk g o n k).wp P R A ρ):Kr tx P R A ρ g o n k:=by
 have S:=ZM (P:=P) G x;simp only [J6,w] at h;split at h
 ·rename_i e full s xs C U;rw [U] at S;have W:=Zm ρ U;split at h
  ·rename_i O;have m:P.cellsOf e≠0:=by omega
   unfold Znw at h;split at h
   ·rename_i k1 k2 c a f
    cases N with
    | some y => simp at c
    | none =>
     cases v with
     | none => simp at a
     | some y =>
      cases D with
      | none => simp at f
      | some z =>
       simp only [XA,Xf] at a f;exact Z7 h trivial (Zj9 w C m W (Zm ρ a) (Zm ρ f))
   ·rename_i c a f
    cases N with
    | some y => simp at c
    | none =>
     cases v with
     | some y => simp at a
     | none =>
      cases D with
      | some z => simp at f
      | none =>
       have:=ZbI (l:=0) (h:=(xs.den ρ).length) (f':=full) w C O.1 m W (X7 _) (Xt _) (.inl ⟨rfl,rfl⟩) (.inl ⟨rfl,rfl⟩) (fun h=>⟨h,rfl⟩);rw [TH,U6] at this;exact Z7 h S this
   ·rename_i X l c a f
    cases N with
    | none => simp at c
    | some y =>
     cases v with
     | some y => simp at a
     | none =>
      cases D with
      | some z => simp at f
      | none =>
       simp only [XA,Xf] at c;have b:=ZM (P:=P) G y;rw [c] at b;obtain ⟨H,J,h⟩:=h;have j:0≤l.den ρ:=H;have L:l.den ρ≤((xs.den ρ).length:Int):=J;have Y:=Zm ρ c;have M:((l.den ρ).toNat:Int)=l.den ρ:=U7 j;have:=ZbI (l:=(l.den ρ).toNat) (h:=(xs.den ρ).length) (f':=full) w C O.1 m W (by omega) (Xt _) (.inr ⟨y,X,rfl,by rw [M];exact Y⟩) (.inl ⟨rfl,rfl⟩) (fun h=>⟨h,rfl⟩);rw [TH] at this;exact Z7 h ⟨S,b⟩ this
   ·rename_i X l c a f
    cases N with
    | some y => simp at c
    | none =>
     cases v with
     | none => simp at a
     | some y =>
      cases D with
      | some z => simp at f
      | none =>
       simp only [XA,Xf] at a;have b:=ZM (P:=P) G y;rw [a] at b;obtain ⟨H,J,h⟩:=h;have j:0≤l.den ρ:=H;have L:l.den ρ≤((xs.den ρ).length:Int):=J;have Y:=Zm ρ a;have M:((l.den ρ).toNat:Int)=l.den ρ:=U7 j;have:=ZbI (l:=0) (h:=(l.den ρ).toNat) (f':=Xb) w C O.1 m W (X7 _) (by omega) (.inl ⟨rfl,rfl⟩) (.inr ⟨y,X,rfl,by rw [M];exact Y⟩) (fun h=>by simp at h);rw [U6] at this;exact Z7 h ⟨S,b⟩ this
   ·rename_i X l kh p c a f
    cases N with
    | none => simp at c
    | some y =>
     cases v with
     | none => simp at a
     | some z =>
      cases D with
      | some z => simp at f
      | none =>
       simp only [XA,Xf] at c a;have b:=ZM (P:=P) G y;rw [c] at b;have Z:=ZM (P:=P) G z;rw [a] at Z;obtain ⟨H,J,r3,h⟩:=h;have j:0≤l.den ρ:=H;have L:l.den ρ≤p.den ρ:=J;have ae:p.den ρ≤((xs.den ρ).length:Int):=r3;have Y:=Zm ρ c;have sz:=Zm ρ a;have M:((l.den ρ).toNat:Int)=l.den ρ:=U7 j;have e2:((p.den ρ).toNat:Int)=p.den ρ:=U7 (by omega);have:=ZbI (l:=(l.den ρ).toNat) (h:=(p.den ρ).toNat) (f':=Xb) w C O.1 m W (by omega) (by omega) (.inr ⟨y,X,rfl,by rw [M];exact Y⟩) (.inr ⟨z,kh,rfl,by rw [e2];exact sz⟩) (fun h=>by simp at h);exact Z7 h ⟨⟨S,Z⟩,b⟩ this
   ·exact h.elim
  ·exact h.elim
 ·rename_i e d q C U;split at h
  ·rename_i k1 k2 a f;split at h
   ·rename_i e' l' hp;split at h
    ·rename_i h0
     cases v with
     | none => simp at a
     | some y =>
      cases D with
      | none => simp at f
      | some z =>
       simp only [XA,Xf] at a f;exact Z7 h trivial (ZcY w C (by omega) (Zm ρ U) (Zm ρ a) (Zm ρ f) (show Zy ((fun d=>(g d).den ρ) d) q=_ from Jn ρ hp) h0.2)
    ·exact h.elim
   ·exact h.elim
  split at h
  case isFalse=>exact h.elim
  rename_i ab;subst ab;split at h
  ·rename_i kh hv e' l r hd _;have p:=G d;rw [hd] at p;split at h
   ·rename_i us aa;split at h
    ·rename_i O;obtain ⟨rfl,h0,ac⟩:=O
     cases v with
     | none => simp at r
     | some z =>
      simp only [XA,Xf] at r;have bz:=ZM (P:=P) G z;rw [r] at bz;obtain ⟨H,J,h⟩:=h;have j:0≤hv.den ρ:=H;have L:hv.den ρ≤((l.den ρ).length:Int):=J;have M:((hv.den ρ).toNat:Int)=hv.den ρ:=U7 j;obtain ⟨af,rfl,q1,q2,q3⟩:=Yz ρ Q (t:=d) hd aa
      have ad:Yv tx (fun d=>(g d).den ρ) d (us.tail.map fun u=>(u.1,u.2.den ρ)):=by
       rcases q2 with ⟨h0,_⟩ | q2
       ·cases h0
       ·exact q2
      refine ZcK h ⟨p,bz⟩ (Yw aa p) ?_;rw [q1];exact ZhL (h:=(hv.den ρ).toNat) w C (by omega) (Zm ρ U) (show (fun d=>(g d).den ρ) d = .own Xc e' (l.den ρ) by show (g d).den ρ=_;rw [hd];rfl) (by rw [M];exact Zm ρ r) (by omega) ad ac
    ·exact h.elim
   ·exact h.elim
  ·exact h.elim
 ·exact h.elim
def ZjL {x:Operand} {i:Nat} (z:∀ d,(g d).bd n) (r:o.op = .extract x i) (h:(J6 P E tx tk g o n k).wp P R A ρ):Kr tx P R A ρ g o n k:=by
 simp only [J6,r] at h;split at h
 ·rename_i t vs w s;have C:x = .tmp t:=by cases x<;>simp [Z8] at w;rw [w]
  subst C;simp only [Z8,XA,Xf] at s;have j:=z t;rw [s] at j;have u:(fun d=>(g d).den ρ) t = .tuple (vs.map (TC.den ρ)):=by show (g t).den ρ=_;rw [s];rfl
  split at h
  ·rename_i b e xs f;have a:(vs.map (TC.den ρ))[i]? = Xa (.own b e (xs.den ρ)):=by rw [Xp,f];rfl
   have l:=j _ (Xo f);split at h
   case isFalse=>exact h.elim
   rename_i m;have q:b=Xc→Mv P e (xs.den ρ):=fun j=>Zju ρ (by rw [j] at m;simpa using m);refine Zb7 h l (us1 (fun c v=>?_)) ?_
   ·rcases UR v with v | rfl
    ·exact j c v
    ·cases b<;>first | exact l | trivial
   ·have:=Zbm (P:=P) (σ:=fun d=>(g d).den ρ) r u a q;simp only [Xn,X5,SV.den,Tg]
    cases b<;>exact this
  ·rename_i y f;have a:(vs.map (TC.den ρ))[i]? = Xa (y.den ρ):=by rw [Xp,f];rfl
   refine Z7 h (j _ (Xo f)) (Zbc (σ:=fun d=>(g d).den ρ) r u a ?_ ?_ ?_ ?_ ?_)
   ·cases y<;>rfl
   all_goals first
    | (intro d p; cases y <;> simp [SV.den, SC.den])
    | (intro d; cases y <;> simp [SV.den, SC.den])
    | (cases y <;> simp [SV.den, SC.den])
  ·rename_i cs f;have a:(vs.map (TC.den ρ))[i]? = Xa (.agg (cs.map (SC.den ρ))):=by rw [Xp,f];rfl
   exact Z7 h (j _ (Xo f)) (Zbc (σ:=fun d=>(g d).den ρ) r u a rfl (fun _ _ h=>by cases h) (fun _ h=>by cases h) (fun h=>by cases h) (fun h=>by cases h))
  ·exact h.elim
  ·exact h.elim
 ·exact h.elim
def Zum {c:Call} (s:∀ d,(g d).bd n) (j:o.op = .call c) (m:c.callee = .builtin .len) (h:(J6 P E tx tk g o n k).wp P R A ρ):Kr tx P R A ρ g o n k:=by
 simp only [J6,j,m] at h;split at h
 ·rename_i x T a b;have p:=ZM (P:=P) s x;split at h
  ·rename_i d q f;split at h
   ·rename_i e e' l i t;split at h
    ·rename_i r;exact Z7 h (Kd t (s d)) (Ze4 j m a b i (Zm ρ f) (show Zy ((fun d=>(g d).den ρ) d) q=_ from Jn ρ t) r)
    ·exact h.elim
   ·exact h.elim
  ·unfold Zuv at h;split at h
   ·rename_i i f;rw [f] at p;exact Z7 h p (Zdh j m a b i (Zm ρ f))
   ·rename_i i f;rw [f] at p;exact Z7 h p (Zf1 j m a b i (Zm ρ f))
   ·exact h.elim
 ·exact h.elim
def Zsd {c:Call} (i:∀ d,(g d).bd n) (p:o.op = .call c) (r:c.callee = .builtin .copy) (h:(J6 P E tx tk g o n k).wp P R A ρ):Kr tx P R A ρ g o n k:=by
 simp only [J6,p,r] at h;split at h
 ·rename_i x y T T' a j;split at h
  ·rename_i e d q f s G v w t;split at h
   ·rename_i e' l u;split at h
    ·rename_i z;obtain ⟨rfl,C,rfl,D,m⟩:=z;have b:=ZM (P:=P) i y;rw [t] at b;refine Zb7 h trivial (us1 (Wp (i d) ⟨Kd u (i d),b⟩)) ?_;simp only [Xn,X5,VT];exact Zc9 (f:=f) p r a j v C (Zm ρ w) (show Zy ((fun d=>(g d).den ρ) d) q=_ from Jn ρ u) (Zib ρ D) (Zm ρ t) m
    ·exact h.elim
   ·exact h.elim
  ·exact h.elim
 ·exact h.elim
def Zc1 {c:Call} {T:TypeId} {x y:Operand} (a:Option Nat) {D:SV} {M:Bool} (J:∀ d,(g d).bd n) (q:∀ i,E.top≤i→g i = .dead) (N:o.op = .call c) (O:c.callee = .builtin .append) (j:c.args.toList = [x,y])
  (r:c.argTypes.toList = [T,T]) (l:∀ t,a=Xa t→x = .tmp t∧D=g t) (m:a=Xe→D=JF P g x)
  (h:(Zbw P T tx g E.top M a D (JF P g y) fun v us=>k v us [] n).wp P R A ρ):Kr tx P R A ρ g o n k:=by
 have G:=ZM (P:=P) J y
 have u:D.bd n:=by
  cases a with
  | none => rw [m rfl]; exact ZM J x
  | some t => rw [(l t rfl).2]; exact J t
 unfold Zbw at h;split at h
 ·rename_i e Q;split at h
  ·rename_i i S;split at h
   ·rename_i z U;split at h
    ·rename_i H;split at h
     ·rename_i b e' xs f s W w;rw [w] at G;split at h
      ·rename_i t;obtain ⟨rfl,p⟩:=l t rfl;split at h
       ·rename_i us C;split at h
        ·rename_i L;obtain ⟨rfl,rfl⟩:=L;obtain ⟨X,rfl,Y,Z,q3⟩:=Yz ρ q (t:=t) p.symm C;refine ZcK h.2 ⟨u,G⟩ (Yw C u) ?_;rw [Y];exact ZcN (σ:=fun d=>(g d).den ρ) N O j r Q S U H.1 (by show (g t).den ρ=_;rw [← p];rfl) (Zm ρ w) h.1 Z H.2.2
        ·exact h.elim
       ·exact h.elim
      ·exact h.elim
     ·rename_i s0 f s W w;rw [w] at G;split at h
      ·rename_i L;subst L;refine Zb7 h.2 G (by simp) ?_
       have p:getS P (fun d=>(g d).den ρ) x = .slice Xc s0 []:=by
        cases a with
        | none => exact Zm ρ (m rfl).symm
        | some t =>
         obtain ⟨rfl,p⟩:=l t rfl;simp only [getS,← p];rfl
       exact Zbj (σ:=fun d=>(g d).den ρ) M N O j r Q S U H.1 p (Zm ρ w) h.1 H.2.2
      ·exact h.elim
     ·exact h.elim
    ·exact h.elim
   ·exact h.elim
  ·exact h.elim
 ·exact h.elim
def Zbb {c:Call} {T:TypeId} {x y:Operand} (a:Option Nat) {w:SV} {L:Bool} {d q:Nat} (C:∀ d,(g d).bd n) (m:∀ i,E.top≤i→g i = .dead) (M:o.op = .call c) (N:c.callee = .builtin .append) (f:c.args.toList = [x,y])
  (p:c.argTypes.toList = [T,T]) (O:JF P g y = .mref d q) (j:∀ t,a=Xa t→x = .tmp t∧w=g t) (l:a=Xe→w=JF P g x)
  (h:(Zap P T tx g E.top L a w (JD (g d) q) fun v us=>k v us [d] n).wp P R A ρ):Kr tx P R A ρ g o n k:=by
 have r:w.bd n:=by
  cases a with
  | none => rw [l rfl]; exact ZM C x
  | some t => rw [(j t rfl).2]; exact C t
 unfold Zap at h;split at h
 ·rename_i e Q;split at h
  ·rename_i i S;split at h
   ·rename_i z U;split at h
    ·rename_i D;split at h
     ·rename_i b e' xs e2 W s;split at h
      ·rename_i t;obtain ⟨rfl,G⟩:=j t rfl;split at h
       ·rename_i us u;split at h
        ·rename_i H;obtain ⟨rfl,rfl⟩:=H;obtain ⟨X,rfl,Y,Z,q3⟩:=Yz ρ m (t:=t) G.symm u;refine ZcK h.2 ⟨r,Kd s (C d)⟩ (Yw u r) ?_;rw [Y];exact Wb (σ:=fun d=>(g d).den ρ) M N f p Q S U D.1 (by show (g t).den ρ=_;rw [← G];rfl) (Zm ρ O) (show Zy ((fun d=>(g d).den ρ) d) q=_ from Jn ρ s) h.1 Z D.2.2
        ·exact h.elim
       ·exact h.elim
      ·exact h.elim
     ·rename_i s0 e' W s;split at h
      ·rename_i H;subst H
       have J:getS P (fun d=>(g d).den ρ) x = .slice Xc s0 []:=by
        cases a with
        | none => exact Zm ρ (l rfl).symm
        | some t =>
         obtain ⟨rfl,G⟩:=j t rfl;simp only [getS,← G];rfl
       refine Z7 h.2 (Kd s (C d)) ?_;exact VI (σ:=fun d=>(g d).den ρ) L M N f p Q S U D.1 J (Zm ρ O) (show Zy ((fun d=>(g d).den ρ) d) q=_ from Jn ρ s) h.1 D.2.2
      ·exact h.elim
     ·exact h.elim
    ·exact h.elim
   ·exact h.elim
  ·exact h.elim
 ·exact h.elim
def Zmj {c:Call} (p:∀ d,(g d).bd n) (e:∀ i,E.top≤i→g i = .dead) (j:o.op = .call c) (l:c.callee = .builtin .append) (h:(J6 P E tx tk g o n k).wp P R A ρ):Kr tx P R A ρ g o n k:=by
 simp only [J6,j,l] at h;split at h
 ·rename_i x y T T' a f;split at h
  ·rename_i r;subst r;split at h
   ·rename_i d q v;split at h
    ·rename_i t m;have s:x = .tmp t:=by cases x<;>simp [Z8] at m;rw [m]
     exact Zbb (Xa t) p e j l a f v (fun u b=>by simp only [Xf] at b;subst b;exact ⟨s,rfl⟩) (fun h=>by cases h) h
    ·exact Zbb Xe p e j l a f v (fun u b=>by cases b) (fun _=>rfl) h
   split at h
   ·rename_i t m;have s:x = .tmp t:=by cases x<;>simp [Z8] at m;rw [m]
    exact Zc1 (Xa t) p e j l a f (fun u b=>by simp only [Xf] at b;subst b;exact ⟨s,rfl⟩) (fun h=>by cases h) h
   ·exact Zc1 Xe p e j l a f (fun u b=>by cases b) (fun _=>rfl) h
  ·exact h.elim
 ·exact h.elim
def Zqv {c:Call} {d e:IntKind} {a b:IE} (h:c.args.toList.map (JF P g) = [.c (.int d a),.c (.int e b)]) :
  ∃ x y,c.args.toList = [x,y]∧JF P g x = .c (.int d a)∧JF P g y = .c (.int e b):=by
 cases hl:c.args.toList with
 | nil => simp [hl] at h
 | cons x l =>
  cases l with
  | nil => simp [hl] at h
  | cons y l =>
   cases l with
   | nil => simp only [hl, Xn, X5, List.cons.injEq, and_true] at h; exact ⟨x, y, rfl, h.1, h.2⟩
   | cons z l => simp [hl] at h
def Zt3 {c:Call} (e:∀ d,(g d).bd n) (f:o.op = .call c) (i:c.callee = .builtin .min) (h:(J6 P E tx tk g o n k).wp P R A ρ):Kr tx P R A ρ g o n k:=by
 simp only [J6,f,i] at h;split at h
 ·rename_i t a u b q;obtain ⟨x,y,r,j,l⟩:=Zqv q;split at h
  ·rename_i s;subst s;have m:=ZM (P:=P) e x;have p:=ZM (P:=P) e y;rw [j] at m;rw [l] at p;exact Z7 h ⟨m,p⟩ (Zcg (mn:=Xc) f i r (Zm ρ j) (Zm ρ l))
  ·exact h.elim
 ·exact h.elim
def Zwt {c:Call} (e:∀ d,(g d).bd n) (f:o.op = .call c) (i:c.callee = .builtin .max) (h:(J6 P E tx tk g o n k).wp P R A ρ):Kr tx P R A ρ g o n k:=by
 simp only [J6,f,i] at h;split at h
 ·rename_i t a u b q;obtain ⟨x,y,r,j,l⟩:=Zqv q;split at h
  ·rename_i s;subst s;have m:=ZM (P:=P) e x;have p:=ZM (P:=P) e y;rw [j] at m;rw [l] at p;exact Z7 h ⟨m,p⟩ (Zcg (mn:=Xb) f i r (Zm ρ j) (Zm ρ l))
  ·exact h.elim
 ·exact h.elim
def ZfL (ρ:Nat→V) (l:List SAK):(l.map (SAK.den ρ)).filterMap AK.slot=l.filterMap SAK.slot:=by
 rw [List.filterMap_map];congr 1;funext a;exact Zbt ρ a
def Zhs {c:Call} {f:FuncId} {ds rf:List Nat} {aZ:List SAK} (H:∀ i,E.top≤i→g i = .dead) (ho:o.op = .call c) (hc:(c.callee = .value (.func f)∧ds = [])∨∃ t,c.callee = .value (.tmp t)∧(g t).den ρ = .clo f ds)
  (ha:Vm P g ρ (c.args.toList.map Zbq.op++ds.map Zbq.cap) aZ) (aa:Raw aZ) (ai:∀ (i:Nat) (x:Operand),c.args.toList[i]? = Xa x→(rf.contains i&&(Zcc g x).isSome)=Xc→∃ t d q j,aZ[i]? = Xa (SAK.ref t d q j)) (h:(ZgJ P E tx g f (Wu P g rf c.args.toList 0) (ZaR g (Zw5 P f) aZ) n k).wp P R A ρ):Kr tx P R A ρ g o n k:=by
 unfold ZgJ at h;split at h
 ·rename_i l Ts hs _;split at h
  ·rename_i ab;obtain ⟨aj,s⟩:=ab;split at h
   ·rename_i res sh G D;obtain ⟨q1,q2,q3⟩:=ZjG D;dsimp only at h;split at h
    case isFalse=>exact h.elim
    rename_i ac;obtain ⟨L,ad⟩:=ac;obtain ⟨vs,h1,O⟩:=h;obtain ⟨tail,a1,a2,a3,a4,a5,a6⟩:=ZjV ρ ha aa hs;have ae:((JB (l.map SAK.sv) G).1).length=l.length:=by rw [Zdt,Xi]
    refine ⟨bind ρ n vs,(JB (l.map SAK.sv) G).2.2,res,ZaK l (JB (l.map SAK.sv) G).1,l.filterMap SAK.slot++(Wu P g rf c.args.toList 0).map (·.1),XN q1 (Kk _ _),Zfc ρ n vs,SV.bd_mono (Kk _ _) _ q2,
     K4 _ _ (Zac _ _),O,?_⟩
    have:=Zmg (T:=tx) (((Wu P g rf c.args.toList 0).head?.getD (0,0)).1) (((Wu P g rf c.args.toList 0).head?.getD (0,0)).2) ((Wu P g rf c.args.toList 0).map (·.1)) (P:=P) (σ:=fun d=>(g d).den ρ) (aks:=l.map (SAK.den ρ)) (res:=res.den (bind ρ n vs)) (outs:=(JB (l.map SAK.sv) G).1.map (SV.den (bind ρ n vs))) (tail:=tail) ho hc (by simpa using a1.1)
     (fun i x a J m=>?_) a2 (by simpa using a3) a4 a5
     (by rw [ZfL];exact W4 _ aj) (by simp [ae]) (fun i d fr to cs y m hy=>?_) (q3 _) (ZiT _ ad) (fun i t e xs m=>?_) (fun i d fr to cs m=>?_) (fun i x J hz d q ak al=>?_) ?_
    ·rw [Zf4,ZfL] at this;exact this
    ·rw [Xp] at m
     cases hsi:l[i]? with
     | none => simp [hsi] at m
     | some a0 =>
      simp only [hsi,XA,Xf] at m;subst m;exact a1.2 i x a0 J hsi
    ·rw [Xp] at m hy
     cases hsi:l[i]? with
     | none => simp [hsi] at m
     | some a =>
      cases hyi:(JB (l.map SAK.sv) G).1[i]? with
      | none => simp [hyi] at hy
      | some y0 =>
       simp only [hsi,hyi,XA,Xf] at m hy;subst hy
       cases a with
       | box d0 fr0 to0 cs0 =>
        simp only [SAK.den,AK.box.injEq] at m;obtain ⟨rfl,rfl,rfl,rfl⟩:=m;obtain ⟨au,rfl⟩:=V2 (l.map SAK.sv) G i to0 cs0 y0 (by rw [Xp,hsi];rfl) hyi;exact ⟨_,Zby _ _ _⟩
       | _ => cases m
    ·rw [Xp] at m
     cases hsi:l[i]? with
     | none => simp [hsi] at m
     | some a =>
      simp only [hsi,XA,Xf] at m
      cases a with
      | own t0 x0 e0 l0 =>
       simp only [SAK.den,AK.own.injEq] at m;obtain ⟨rfl,rfl,rfl,_⟩:=m;unfold Zel at s;rw [XE] at s;have v:=s _ (Xo hsi)
       cases tx with
       | any N M K => exact .inr ⟨N, M, K, rfl, v, rfl⟩
       | text =>
       simp only [List.isEmpty_iff] at v;refine .inl ⟨rfl,by simp,fun j q _ D=>?_⟩;have Q:=(J8 ρ H (d:=t0)).2 j q;by_cases hj:j=t0
       ·subst hj;have S:=a1.2 i;have U:=(Xx.1 hsi).1;obtain ⟨x,J⟩:∃ x,(c.args.toList.map Zbq.op++ds.map Zbq.cap++tail)[i]? = Xa x:=⟨_,Xm (by rw [a1.1];exact U)⟩;have W:=S x _ J hsi
        cases x with
        | op y =>
         have h1:(g j).den ρ = .own Xc e0 (l0.den ρ):=W.2;have w:Jz ((g j).den ρ) j q:=D;rw [h1] at w;rcases w with O | ⟨_,O⟩ <;> cases O
        | _ => exact W.elim
       ·have:=Q hj D;rw [v] at this
        cases this
      | _ => cases m
    ·rw [Xp] at m
     cases hsi:l[i]? with
     | none => simp [hsi] at m
     | some a =>
      simp only [hsi,XA,Xf] at m
      cases a with
      | box t0 fr0 to0 cs0 =>
       simp only [SAK.den,AK.box.injEq] at m;obtain ⟨rfl,rfl,rfl,rfl⟩:=m;unfold Zel at s;rw [XE] at s;have am:=s _ (Xo hsi);rcases TG.1 am with hpl | v
       ·exact .inl (ZcF hpl ρ)
       ·right
        cases tx with
        | any N M K =>
         rcases TG.1 v with v | v
         ·exact .inl (.inr ⟨N,M,K,rfl,v,rfl⟩)
         ·refine .inr fun af X j q D=>?_
          cases hM:M t0 with
          | none => rw [hM] at v; cases v
          | some t =>
           rw [hM] at v;simp only at v;by_cases hj:t=j
           ·subst hj;rw [Ut] at v;obtain ⟨b,hb,C⟩:=v
            cases b with
            | ref Z _ _ _ =>
             have h4:Z=t:=by simpa using C
             exact ⟨_,Xs.2 ⟨_,hb,rfl⟩,by rw [Zbt];show Xa Z=Xa t;rw [h4]⟩
            | _ => cases C
           ·exact (X.1 t0 j q (by simp [Odr.nr,hM,hj]) D).elim
        | text =>
        refine .inr fun af X j q D=>?_;have ag:af=fun d=>(g d).den ρ:=X;rw [ag] at D;have Q:=(J8 ρ H (d:=t0)).2 j q;by_cases hj:j=t0
        ·subst hj;have S:=a1.2 i;have U:=(Xx.1 hsi).1;obtain ⟨x,J⟩:∃ x,(c.args.toList.map Zbq.op++ds.map Zbq.cap++tail)[i]? = Xa x:=⟨_,Xm (by rw [a1.1];exact U)⟩;have W:=S x _ J hsi;have w:Jz ((g j).den ρ) j q:=D
         have Y:∃ fr cs,(g j).den ρ=mkB fr cs:=by
          cases x with
          | op y => exact ⟨Xb, _, W.2.1⟩
          | cap d' => exact ⟨_, _, W.2.1⟩
          | ghost => exact ⟨_, _, W.1⟩
          | pad => exact W.elim
         obtain ⟨fr,cs,Y⟩:=Y;rw [Y] at w
         cases fr<;>rcases w with O | ⟨_,O⟩ <;> cases O
        ·have hm:=Q hj D;rw [XE] at v;obtain ⟨u,hu,an⟩:=Xs.1 hm;obtain ⟨u0,ao,rfl⟩:=Xs.1 hu;have h3:=v u0 ao;rw [Ut] at h3;obtain ⟨b,hb,C⟩:=h3
         cases b with
         | ref Z _ _ _ =>
          refine ⟨_,Xs.2 ⟨_,hb,rfl⟩,?_⟩;have h4:Z=u0.1:=by simpa using C
          rw [Zbt];show Xa Z=Xa j;rw [h4];exact congrArg Xa an
         | _ => cases C
      | _ => cases m
    ·have ah:(rf.contains (0+i)&&(Zcc g x).isSome)=Xb:=by
      rw [XW]
      cases hc':(rf.contains i&&(Zcc g x).isSome) with
      | false => rfl
      | true =>
       obtain ⟨Z,d1,q1,j1,ap⟩:=ai i x J hc';obtain ⟨j2,aq⟩:=a6 i Z d1 q1 j1 ap;obtain ⟨z,hz⟩:=hz;rw [Xp,aq] at hz
       cases hz
     have hm:=Zhj (P:=P) (g:=g) ρ J ah ak al;generalize Wu P g rf c.args.toList 0=bs at hm L
     cases bs with
     | nil => cases hm
     | cons p r =>
      simp only [Zwc,Xk,XE,P5,XJ,TY,decide_eq_false_iff_not] at L;obtain ⟨⟨⟨b1,b2⟩,b3⟩,b4⟩:=L
      have hp:d=p.1∧q=p.2:=by
       rcases Xr.1 hm with h0 | h0
       ·rw [← h0];exact ⟨rfl,rfl⟩
       ·exact b1 _ h0
      refine ⟨hp.1,hp.2,by simp,fun a ha hs=>b2 ?_,fun i=>?_⟩
      ·obtain ⟨a0,ar,rfl⟩:=Xs.1 ha;rw [Zbt] at hs;exact Tl.2 ⟨a0,ar,hs⟩
      ·simp only [Z5];rcases XS i ((JB (l.map SAK.sv) G).1.map (SV.den (bind ρ n vs))).length with m | m
       ·rw [XH m,Xp]
        cases hy:(JB (l.map SAK.sv) G).1[i]? with
        | none => rfl
        | some y => exact ZdR _ (b4 y (Xo hy))
       ·rw [XG m]
        cases hj:i-((JB (l.map SAK.sv) G).1.map (SV.den (bind ρ n vs))).length with
        | zero => exact ZdR _ b3
        | succ j => rfl
    ·have he:(l.map (SAK.den ρ)).map AK.av=(l.map SAK.sv).map (SV.den ρ):=by
      rw [Uw,Uw];exact Tb fun a _=>Zqu ρ a
     rw [he];exact h1
   ·exact h.elim
  ·exact h.elim
 ·exact h.elim
def Zhn {d:Nat} {u:Nat×SV} {n:Nat} (ρ:Nat→V) (a:u∈Jx g d n):u.2 = .dead∧∃ d k,Jz ((g u.1).den ρ) d k:=by
 obtain ⟨b,_,_,c⟩:=(JZ n u).1 a;obtain ⟨k,e⟩:=(ZaS ρ d (g u.1)).1 c;exact ⟨b,d,k,e⟩
def Zhr {rf:List Nat} {args:List Operand} {u:Nat×SV} (ρ:Nat→V) (b:u∈ZbL E tx g rf args):u.2 = .dead∧∃ d k,Jz ((g u.1).den ρ) d k:=by
 unfold ZbL at b;split at b
 ·obtain ⟨p,_,a⟩:=List.mem_flatMap.1 (Uu.1 b).1;split at a
  ·split at a
   ·exact Zhn ρ a
   ·cases a
  ·cases a
 ·cases b
def Zg8 (b:Ups):(fun d=>(ZgC b g d).den ρ)=JV (fun d=>(g d).den ρ) ((b.map fun u=>(u.1,SV.dead.den ρ))):=by
 funext d;rw [Zae _ _ _ (fun u a=>by obtain ⟨v,_,rfl⟩:=Xs.1 a;rfl)];unfold ZgC;by_cases h:(b.any fun u=>u.1 == d)=Xc
 ·rw [P4 h,P4]
  ·rfl
  ·rw [Ut] at h;obtain ⟨u,a,c⟩:=h;rw [Uw];exact Xs.2 ⟨u,a,by simpa using c⟩
 ·rw [P3 h,P3];rw [Uw];intro e;obtain ⟨u,a,c⟩:=Xs.1 e;exact h (Ut.2 ⟨u,a,by simpa using c⟩)
def Zm4 (e:Ups) (f:∀ u∈e,u.2 = .dead∧(∃ d k,Jz ((g u.1).den ρ) d k)∧u.1∉Vh o) (h:Kr .text P R A ρ (ZgC e g) o n (fun x us p r=>k x (e++us) p r)):Kr .text P R A ρ g o n k:=by
 obtain ⟨j,r,x,us,p,z,C,D,G,H,J⟩:=h;refine ⟨j,r,x,e++us,p,z,C,D,fun u a=>?_,H,?_⟩
 ·rcases Xq.1 a with a | a
  ·rw [(f u a).1];trivial
  ·exact G u a
 intro c L s M w lim X _ _ N b l Q O;have t:s=fun d=>(g d).den ρ:=N;subst t;have m:(e.map fun u=>(u.1,u.2.den j))=e.map fun u=>(u.1,SV.dead.den ρ):=Tb fun u a=>by rw [(f u a).1];rfl
 obtain ⟨X',y,_⟩:=Sim.drops (e.map fun u=>(u.1,SV.dead.den ρ)) b fun u a=>by
  obtain ⟨v,S,rfl⟩:=Xs.1 a;obtain ⟨_,⟨d,q,i⟩,_⟩:=f v S;obtain ⟨Y,T,g3⟩:=V8 i;refine ⟨rfl,T,ZaX b (fun U=>?_) g3⟩;rw [U] at i;rcases i with i | ⟨_,i⟩ <;> cases i
 rw [← Zg8] at y;refine J c L _ M w lim X' (fun _ _=>.inl rfl) (fun _ _=>rfl) rfl y l Q fun v w' W=>O v w' ?_;rw [Us,m,K3,← Zg8];exact W
def Zgn:∀ (l:List SV) (ds:List Nat),ZdZ l=Xa ds→l.length=ds.length∧∀ (i d:Nat),ds[i]? = Xa d→l[i]? = Xa (.ptr d 0)
 | [], ds, h => by simp only [ZdZ, Xf] at h; subst h; exact ⟨rfl, by simp⟩
 | x :: l, ds, h => by
  unfold ZdZ at h;split at h
  ·rename_i a;cases a
  ·rename_i d r a;simp only [List.cons.injEq] at a;obtain ⟨rfl,rfl⟩:=a
   cases hr:ZdZ l with
   | none => rw [hr] at h; cases h
   | some es =>
    rw [hr] at h;simp only [XA,Xf] at h;subst h;obtain ⟨c,f⟩:=Zgn l es hr;refine ⟨by simp [c],fun i e b=>?_⟩
    cases i with
    | zero => simp only [XM, Xf] at b ⊢; rw [b]
    | succ i => simpa using f i e (by simpa using b)
  ·cases h
def Zho {r:Fn} {c a:Array Operand} (m:o.op = .makeFunc r c a) (h:(J6 P E tx tk g o n k).wp P R A ρ):Kr tx P R A ρ g o n k:=by
 simp only [J6,m] at h;split at h
 ·rename_i f ds s e;split at h
  ·rename_i b;obtain ⟨t,u⟩:=Zgn _ _ e;refine Z7 h trivial (ZeE m s (by simpa using t) fun i x d v p=>?_);have j:=u i d p;rw [Xp,v] at j;simp only [XA,Xf] at j;rw [XE] at b;have q:=b d (Xo p);refine ⟨Zm ρ j,?_⟩;show ∃ cs,(g d).den ρ = .box cs;split at q
   ·rename_i cs l;rw [l];exact ⟨_,rfl⟩
   ·cases q
  ·exact h.elim
 ·exact h.elim
def Zmi {P:Program} (w:World) (d:Nat) {t e:TypeId} (a:Addr) (h:P.underlying t=Xa (.pointer e)):(Op.equalIn (d+1) t (.pointer (Xa a)) (.pointer Xe)).run P w = .ok Xb w:=by
 simp [Op.equalIn,run_underlying h]
def Zci {P:Program} {o:Oper} {σ:Nat→AV} {op:BinOp} {T T' e:TypeId} {x:Operand} {d off:Nat} (i:o.op = .binOp op T x (.const (.pointer Xe)) T') (l:P.underlying T=Xa (.pointer e))
  (f:op = .eql∨op = .neq) (m:getS P σ x = .ptr d off):J3 P o σ (.val (.bool (if op = .eql then Xb else Xc))) [] []:=by
 refine ZD [] rfl fun c p q r w lim X j _ a=>⟨.bool (if op = .eql then Xb else Xc),?_,.val rfl⟩;rw [i] at j;obtain ⟨b,cs,_,_,s⟩:=YU p a m (j x (by simp [Op.operands]));have h:Act.eval ⟨r,[]⟩ (.const (.pointer Xe)) = .pointer Xe:=rfl;have t:(Op.equal T (.pointer (Xa ⟨b,off,Xe⟩)) (.pointer Xe)).run P w = .ok Xb w:=Zmi w 9999 _ l;rcases f with rfl | rfl<;>simp [execOp,i,s,h,eqGuard,binOp,t]
def Zpm {op:BinOp} {T T':TypeId} {x y:Operand} (f:EnvSound P E) (l:∀ d,(g d).bd n) (c:o.op = .binOp op T x y T') (h:(J6 P E tx tk g o n k).wp P R A ρ):Kr tx P R A ρ g o n k:=by
 simp only [J6,c] at h;split at h
 ·rename_i b a;unfold Zqd at a;split at a
  ·rename_i d off e i j;split at a
   ·simp only [Xf] at a;subst a;exact Z7 h trivial (Zci (op:=.eql) c j (.inl rfl) (Zm ρ i))
   ·simp only [Xf] at a;subst a;exact Z7 h trivial (Zci (op:=.neq) c j (.inr rfl) (Zm ρ i))
   ·cases a
  ·cases a
 ·exact Zna f.1 l c h
def Zjf {l:List (List AV)} {k:Int} (h:Zbz .any l k=Xc):∃ a b,l = [.slice Xb 2 a::b]:=by
 unfold Zbz at h;split at h
 ·exact ⟨_,_,rfl⟩
 ·cases h
def Znn {l:List (List AV)} {k:Int} (h:Zbz .full l k=Xc):∃ a,l = [[.slice Xb 2 a]]:=by
 unfold Zbz at h;split at h
 ·rename_i a b;obtain rfl:b = []:=by simpa using h
  exact ⟨_,rfl⟩
 ·cases h
def ZlB {l:List (List AV)} {k:Int} (h:Zbz .at l k=Xc):∃ a b,l = [.slice Xb 2 a::b]∧∀ x∈b,x = .val (.int .i64 k):=by
 unfold Zbz at h;split at h
 ·rename_i a b;refine ⟨_,_,rfl,fun x c=>?_⟩;have:=XE.1 (show b.all (Zph k)=Xc from h) x c;unfold Zph at this;split at this
  ·rename_i z;have d:z=k:=by simpa using this
   rw [d]
  ·cases this
 ·cases h
def Zl0 {l:List (List AV)} {k:Int} (h:Zbz .keys l k=Xc):∃ a,l = [[.slice Xb 2 a]]∧a.length≤1048576∧∀ r∈a,WC r=Xc:=by
 unfold Zbz at h;split at h
 ·rename_i a c;have b:c.isEmpty=Xc∧a.length≤1048576∧a.all WC=Xc:=by simpa using h
  obtain rfl:c = []:=by simpa using b.1
  exact ⟨_,rfl,b.2.1,XE.1 b.2.2⟩
 ·cases h
def ZjU {T:TypeId} {x:Option Operand} (b:o.op = .makeMap T x) (h:(J6 P E tx tk g o n k).wp P R A ρ):Kr tx P R A ρ g o n k:=by
 simp only [J6,b] at h;split at h
 ·rename_i et a;exact Z7 h (show (LE.bd n _) from ⟨trivial,trivial,trivial⟩) (Zgg b a)
 ·exact h.elim
def Zmq {T:TypeId} {m s:Operand} {t:Bool} (u:∀ d,(g d).bd n) (j:o.op = .lookup T m s t) (h:(J6 P E tx tk g o n k).wp P R A ρ):Kr tx P R A ρ g o n k:=by
 have f:=ZM (P:=P) u s;simp only [J6,j] at h
 cases t with
 | true => exact h.elim
 | false =>
  simp only [ZiF] at h;split at h
  ·rename_i et d D b v p;rw [p] at f;split at h
   ·rename_i e l w;have i:=u d;rw [w] at i;split at h
    ·rename_i C;obtain ⟨x,y,z⟩:=C;have c:(g d).den ρ = .own Xc e (l.den ρ):=by rw [w];rfl
     split at h
     ·obtain ⟨q,h⟩:=h;obtain ⟨r,a⟩:=Znn q;refine Zb7 h (show LE.bd n _ from ⟨i,f⟩) (us1 (show LE.bd n _ from ⟨i,f⟩)) ?_;have:=Zbr j b z (Zm ρ v) (by rw [c,a]) y x (Zm ρ p);rw [← a] at this;exact this
     ·obtain ⟨q,h⟩:=h;obtain ⟨r,G,a⟩:=Zjf q;refine Z7 h (show LE.bd n _ from ⟨i,f⟩) ?_;have:=ZhD j b z (Zm ρ v) (by rw [c,a]) y x (Zm ρ p);rw [← a] at this;exact this
    ·exact h.elim
   ·exact h.elim
  ·exact h.elim
def ZgX {T:TypeId} {m q v:Operand} (r:∀ d,(g d).bd n) (f:o.op = .insert T m q v∨o.op = .mapUpdate T m q v) (h:(J6 P E tx tk g o n k).wp P R A ρ):Kr tx P R A ρ g o n k:=by
 have u:=ZM (P:=P) r q;have h:(Zbs P g T m q v n k).wp P R A ρ:=by rcases f with f | f<;>simpa only [J6,f] using h
 unfold Zbs at h;split at h
 ·rename_i et d W i J w;rw [w] at u;split at h
  ·rename_i e l L;have x:=r d;rw [L] at x;split at h
   ·rename_i Q;obtain ⟨M,N⟩:=Q;have j:(g d).den ρ = .own Xc e (l.den ρ):=by rw [L];rfl
    split at h
    ·rename_i t p O y a;have S:v = .tmp t:=by cases v<;>simp_all [Z8]
     rw [y] at a;have a:g t = .own Xb p O:=by simpa using a
     have z:=r t;rw [a] at z;split at h
     ·rename_i C;subst C;obtain ⟨D,h⟩:=h;obtain ⟨G,U,b,c⟩:=ZlB D;subst S;refine Zb7 h trivial (us2 z (show LE.bd n _ from ⟨x,u,z⟩)) ?_;have:=Zhu f i (Zm ρ J) (by rw [j,b]) N M (Zm ρ w) c (show (fun d=>(g d).den ρ) t = .own Xb p (O.den ρ) by show (g t).den ρ=_;rw [a];rfl);rw [← b] at this;exact this
     ·exact h.elim
    ·split at h
     ·rename_i s H;obtain ⟨D,h⟩:=h;obtain ⟨G,U,b,c⟩:=ZlB D;refine Zb7 h trivial (us1 (show LE.bd n _ from ⟨x,u,trivial⟩)) ?_;have:=ZbX f i (Zm ρ J) (by rw [j,b]) N M (Zm ρ w) c (Zm ρ H);rw [← b] at this;exact this
     ·exact h.elim
   ·exact h.elim
  ·exact h.elim
 ·exact h.elim
def ZkF {f:FuncId} {args:List Operand} {d:Nat} {a:FuncId} {l:LE} (h:Zit P E g f args=Xa (d,a,l)) :
  ∃ x p e,args = [x]∧p∈E.ks∧p.1=f∧p.2.2=a∧JF P g x = .mref d 0∧g d = .own Xc e l∧P.cellsOf e=0:=by
 unfold Zit at h;split at h
 ·cases h
 ·split at h
  ·rename_i x p b;split at h
   ·rename_i m c;split at h
    ·rename_i e q i;split at h
     ·rename_i j;simp only [Xf,Xw] at h;obtain ⟨rfl,rfl,rfl⟩:=h;refine ⟨x,p,e,rfl,List.mem_of_find?_eq_some b,?_,rfl,c,i,j.2⟩;simpa using List.find?_some b
     ·cases h
    ·cases h
   ·cases h
  ·cases h
def ZhK {f:FuncId} {args:List Operand} {d:Nat} {l:LE} (h:ZbA P E g f args=Xa (d,l)) :
  ∃ x p e,args = [x]∧p∈E.ks∧p.2.1=f∧JF P g x = .eref d 0 (.lit 0) 0 p.2.2∧g d = .own Xc e l∧P.cellsOf e=0:=by
 unfold ZbA at h;split at h
 ·cases h
 ·split at h
  ·rename_i x;split at h
   ·rename_i m q c;split at h
    ·rename_i e r i;split at h
     ·rename_i b;simp only [Xf,Xw] at h;obtain ⟨rfl,rfl⟩:=h;obtain ⟨p,j,a⟩:=Ut.1 b.2.2;simp only [Xk,beq_iff_eq] at a;exact ⟨x,p,e,rfl,j,a.1,by rw [a.2];exact c,i,b.2.1⟩
     ·cases h
    ·cases h
   ·cases h
  ·cases h
def ZsD {c:Call} {f:FuncId} {d:Nat} {j:FuncId} {l:LE} (a:EnvSound P E) (m:o.op = .call c) (q:c.callee = .value (.func f)) (b:Zit P E g f c.args.toList=Xa (d,j,l))
  (h:(STree.req (.mq .any l (.lit 0)) (k (.eref d 0 (.lit 0) 0 j) [] [d] n)).wp P R A ρ):Kr tx P R A ρ g o n k:=by
 obtain ⟨x,p,e,r,s,rfl,rfl,t,u,v⟩:=ZkF b;obtain ⟨w,h⟩:=h;obtain ⟨y,z,i⟩:=Zjf w;refine Z7 h trivial ?_;have:=Znq (d:=d) a.2 s m q r (Zm ρ t) (by show (g d).den ρ=_;rw [u];show AV.own Xc e (l.den ρ)=_;rw [i]) v;simpa [SV.den,IE.den] using this
def Zni {c:Call} {f:FuncId} {d:Nat} {l:LE} (j:EnvSound P E) (s:∀ d,(g d).bd n) (t:o.op = .call c) (u:c.callee = .value (.func f)) (m:ZbA P E g f c.args.toList=Xa (d,l))
  (h:(STree.req (.mq .keys l (.lit 0)) (k (.c (.slice Xb 1 (.mkeys l))) [] [d] n)).wp P R A ρ):Kr tx P R A ρ g o n k:=by
 obtain ⟨x,p,e,v,w,rfl,y,q,z⟩:=ZhK m;obtain ⟨C,h⟩:=h;obtain ⟨D,b,i,a⟩:=Zl0 C;have r:=s d;rw [q] at r;refine Z7 h (show LE.bd n _ from r) ?_;have G:getS P (fun d=>(g d).den ρ) x = .eref d 0 p.2.2:=by have:=Zm ρ y;simpa [SV.den,IE.den] using this
 have:=Zh4 (d:=d) j.2 w t u v G (by show (g d).den ρ=_;rw [q];show AV.own Xc e (l.den ρ)=_;rw [b]) z i a;rw [← b] at this;exact this
def ZkD (w:EnvSound P E) (p:∀ d,(g d).bd n) (l:∀ i,E.top≤i→g i = .dead) (h:(J6 P E tx tk g o n k).wp P R A ρ):Kr tx P R A ρ g o n k:=by
 cases ho:o.op with
 | move x => exact Zsg p l ho h
 | assign x => exact Zly p l ho h
 | pick c a b => exact ZqY p ho h
 | alloc T => exact Zpy ho h
 | box T x => exact ZtE p ho h
 | build T parts => exact ZoI p l ho h
 | buildSlice T len parts => exact Zfb p ho h
 | load T a => exact Zq1 p l ho h
 | store T a x => exact Zo0 p l ho h
 | nilCheck x => exact Zhy p ho h
 | binOp op T x y T' => exact Zpm w p ho h
 | unOp op T x => exact ZqW p ho h
 | convert S T x => exact Zkq p ho h
 | fieldAddr T x f => exact Zg1 p ho h
 | field T x f => exact ZoR p ho h
 | indexAddr T x i => exact Zhc p ho h
 | makeSlice T a b => exact ZrH p ho h
 | makeFunc fn first captured => exact Zho ho h
 | makeMap T x => exact ZjU ho h
 | lookup T m kx ok => exact Zmq p ho h
 | insert T m kx v => exact ZgX p (.inl ho) h
 | mapUpdate T m kx v => exact ZgX p (.inr ho) h
 | slice T x lo Q mx => exact ZoX p l ho h
 | extract x i => exact ZjL p ho h
 | call c =>
  cases hc:c.callee with
  | builtin b =>
   cases b with
   | len => exact Zum p ho hc h
   | append => exact Zmj p l ho hc h
   | copy => exact Zsd p ho hc h
   | min => exact Zt3 p ho hc h
   | max => exact Zwt p ho hc h
   | _ => simp only [J6, ho, hc] at h; exact h.elim
  | value x =>
   cases x with
   | func f =>
    simp only [J6,ho,hc] at h;split at h
    ·rename_i z;exact ZsD w ho hc z h
    split at h
    ·rename_i z;exact Zni w p ho hc z h
    split at h
    case h_2=>
     rename_i U;split at h
     case isFalse=>exact h.elim
     rename_i s;rw [XE] at s
     cases htx:tx with
     | any N M => exact (U (by rw [htx]; rfl)).elim
     | text =>
     subst htx;refine Zm4 (ZbL E .text g (E.rfs f) c.args.toList) (fun u hu=>?_) ?_
     ·obtain ⟨W,X⟩:=Zhr ρ hu;exact ⟨W,X,by simpa using s u hu⟩
     ·split at h
      ·rename_i O r;obtain ⟨C,G,Y⟩:=Zaw ρ _ _ _ r;refine Zhs (ds:=[]) (fun i Q=>by unfold ZgC;split;rfl;exact l i Q) ho (.inl ⟨hc,rfl⟩) (by simpa using C) G (fun i x H D=>?_) h;have J:i < O.length:=by rw [← C.1,Xi];exact (Xx.1 H).1
       obtain ⟨t,d,q,j,e⟩:=Y i _ x H (Xm J) (by rw [XW];exact D);exact ⟨t,d,q,j,by rw [Xm J,e]⟩
      ·exact h.elim
    split at h
    ·rename_i O r;obtain ⟨C,G,Y⟩:=Zaw ρ _ _ _ r;refine Zhs (ds:=[]) l ho (.inl ⟨hc,rfl⟩) (by simpa using C) G (fun i x H D=>?_) h;have J:i < O.length:=by rw [← C.1,Xi];exact (Xx.1 H).1
     obtain ⟨t,d,q,j,e⟩:=Y i _ x H (Xm J) (by rw [XW];exact D);exact ⟨t,d,q,j,by rw [Xm J,e]⟩
    ·exact h.elim
   | tmp t =>
    simp only [J6,ho,hc] at h;split at h
    ·rename_i f ds O ht r;obtain ⟨C,G,_⟩:=Zaw ρ _ _ _ r;split at h
     ·rename_i cs Z;obtain ⟨W,X⟩:=ZrL (P:=P) ρ Z;refine Zhs (ds:=ds) l ho (.inr ⟨t,hc,by rw [ht];rfl⟩) (C.append W) (fun a L=>?_) (fun i _ _ Q=>by simp at Q) h;rcases Xq.1 L with L | L
      ·exact G a L
      ·exact X a L
     ·exact h.elim
    ·exact h.elim
   | _ => simp only [J6, ho, hc] at h; exact h.elim
  | _ => simp only [J6, ho, hc] at h; exact h.elim
 | _ => simp only [J6, ho] at h; exact h.elim
end
end Go.AM
