import Derived.Test.YtigknndkmlhmfaaM2
import Derived.Orders
open Option renaming some→Xa,none→Xe,map_some→Xv,map_eq_some_iff→X9,bind_some→Tm
open Bool renaming true→Xb,false→Xc,and_eq_true→Xx,not_eq_true'→UK,or_eq_true→US,false_eq_true→U5,or_eq_true_iff→Te
open Option.some renaming injEq→Xf
open List renaming length_map→Xi,mem_of_getElem?→Xj,map_cons→Xk,getElem?_map→Xl,mem_map→Xm,getElem?_eq_some_iff→Xn,getElem?_eq_getElem→Xq,length_append→Xr,mem_append→Xs,length_take→Xt,mem_cons→Xu,append_assoc→Xw,getElem?_take→Xz,getElem?_append_right→XB,all_eq_true→XC,getElem?_append_left→XE,replicate→XG,mem_singleton→XH,getElem?_drop→XI,map_append→XJ,getElem?_cons_zero→XK,map_nil→XL,length_cons→XN,mem_of_mem_take→XP,mem_of_mem_drop→XS,mem_iff_getElem?→XU,take_length→XW,eq_nil_of_length_eq_zero→Ub,mem_or_eq_of_mem_set→Ue,map_map→Uf,map_take→Ui,getElem?_cons_succ→Ul,range→Un,append_nil→Us,map_drop→Ut,map_set→Uv,getElem?_eq_none→Ux,take_of_length_le→UA,map_toArray→UB,mem_cons_of_mem→UC,flatten_append→UF,mem_replicate→UG,any_eq_true→UJ,all_cons→UN,map_congr_left→UO,drop_of_length_le→UQ,countP_cons→UZ,mem_filter→U4,foldl_cons→Tb,mem_range→Th,drop_zero→Tn,isEmpty_iff→Tw,contains_iff_mem→TT,mem_cons_self→TU,eq_nil_iff_forall_not_mem→TX
open Prod.mk renaming injEq→Xo
open Nat renaming le_refl→XA,lt_or_ge→XD,zero_add→XM,lt_of_lt_of_le→XO,le_add_right→XX,le_trans→XY,zero_le→XZ,add_sub_cancel→X5,add_zero→Ug,lt_succ_self→Uu,add_assoc→Uw,lt_trichotomy→Ty,mod_two_eq_zero_or_one→TV
open Array renaming toList_inj→XR,getElem?_eq_getElem→X8,getElem?_eq_some_iff→Ua,getD→Uc,range→Tc,getElem?_modify→Tl
open Classical renaming axiomOfChoice→Tu
open Int renaming toNat_of_nonneg→Tx
set_option linter.unusedVariables false
set_option linter.unusedSimpArgs false
set_option linter.defProp false
namespace Go.AM
def ZmN (P:Program) (c:AV):AV:=match c with | .own Xb e ys=>.nest (P.cellsOf e) Xb e ys | c=>c
def ZqJ (P:Program) (c:AV):Prop:=(c.isCell=Xb∧Zlv c=Xc)∨∃ e ys,c = .own Xb e ys∧Zk P e=Xc
theorem Zna {P:Program} {c:AV} (h:ZqJ P c):(ZmN P c).isCell=Xb:=by
 rcases h with ⟨h,_⟩ | ⟨e,ys,rfl,_⟩
 ·cases c<;>first | exact h | (simp [AV.isCell] at h;done)
 ·rfl
theorem Zmu {P:Program} {c:AV} (h:c.isCell=Xb):ZmN P c=c:=by
 cases c<;>first | rfl | (simp [AV.isCell] at h;done)
theorem Zk7 {P:Program} {w:World} {lim:Nat→Nat} {x:Bool} {e:TypeId} {xs:List (List AV)} {v:Value} {ob:Option Nat} (h:Vz P w lim x e xs v ob):∃ a n cap,v = .slice a n cap:=by
 rcases h with ⟨us,hr,_⟩ | ⟨_,_,a,rfl⟩
 ·rcases hr.2 with ⟨hv,_⟩ | ⟨g,cap,cur,hv,_⟩
  ·exact ⟨_,_,_,hv⟩
  ·exact ⟨_,_,_,hv⟩
 ·exact ⟨_,_,_,rfl⟩
theorem Wr {P:Program} {w:World} {lim:Nat→Nat} {x:Bool} {e:TypeId} {xs:List (List AV)} {v:Value} {ob:Option Nat} (h:ZY P w lim x e xs v ob) (hm:Zk P e=Xc):Vz P w lim x e xs v ob:=by
 rcases h.noMap hm with h | h
 ·exact .inl h
 ·exact .inr h
theorem Zgf {P:Program} {e:TypeId} (h:Zg P (e+2097152)=Xb):bT (e+2097152)=e:=Zly h
theorem Sim.aggoOut {c:Ctx} {σ:Nat→AV} {tm:Array Value} {w:World} {lim:Nat→Nat} {X:Nat→Nat→Option Nat} (h:Sim c σ tm w lim X) {t:Nat} {cs:List AV} (ht:σ t = .aggo cs):Sim c (upd σ t .dead) tm w lim (Ke X t Jx):=
 h.weaken (k:=0) (x:=.dead) (JJ h (by rw [ht];exact fun h=>by cases h) (by rw [ht];rfl)) (fun cs' he=>by rw [ht] at he;cases he) (h.noRefs fun k=>by rw [ht];cases k<;>rfl) rfl (fun i q hr=>by rcases hr with hr | ⟨_,hr⟩ <;> cases hr) trivial
set_option maxHeartbeats 1000000 in
theorem Zcl {P:Program} {o:Oper} {σ:Nat→AV} {T e:TypeId} {parts:Array (Nat×Operand)} {i:TypeInfo} {z:Value} {t:Nat} {cs:List AV} (ho:o.op = .buildSlice T 1 parts) (hp:parts.toList = [(0,.tmp t)]) (hT:P.underlying T=Xa (.slice e)) (hi:P.info? e=Xa i) (hz:i.zero=Xa z) (hzs:z.cells.size=i.size)
  (hs0:0 < i.size) (hbig:i.size≤1048576) (hnm:Zk P e=Xc) (hdp:Zg P (e+2097152)=Xb) (ht:σ t = .aggo cs) (hn:cs.length=i.size) (hok:∀ c∈cs,ZqJ P c) :
  JO P o σ (.own Xb (e+2097152) [cs.map (ZmN P)]) [(t,.dead)] []:=by
 have hp':parts = #[(0,.tmp t)]:=by apply XR.1;rw [hp]
 subst hp'
 intro c hc σ' tm w lim X hid hag hsim next Q hnx
 have ht':σ' t = .aggo cs:=by rw [hag t (by simp),ht]
 have hrel:=hsim.rel t
 rw [ht'] at hrel
 obtain ⟨us,hv,hul,⟨hkinds,hone⟩,hcell⟩:=(show ∃ us:List Value,tm.getD t undef = .agg us.toArray∧us.length=cs.length∧((∀ c∈cs,c.isCell=Xb∨(∃ x e xs,c = .own x e xs)∨c = .gone)∧∀ u∈us,u.oneCell'=Xb)∧
   ∀ (i:Nat) (c':AV) (u:Value),cs[i]? = Xa c'→us[i]? = Xa u→J9 c.P w lim (X t (i+1)) c' u from hrel)
 have hsz:P.cellsOf e=i.size:=ZI hi
 have hbe:bT (e+2097152)=e:=Zgf hdp
 have hdp':Zg c.P (e+2097152)=Xb:=by rw [hc];exact hdp
 obtain ⟨N,hN⟩:∃ N,N=w.heap.size:=⟨_,rfl⟩
 have hev:Act.eval ⟨tm,[]⟩ (.tmp t) = .agg us.toArray:=hv
 -- the run
 have hzl:z.cells.toList.length=i.size:=by rw [← hzs];simp
 have hfill:Instr.fill (fun j=>Xa (j*i.size,i.size)) ((Tc (1*i.size)).map fun x=>z.cells[x % z.cells.size]!) [(0,.agg us.toArray)]=Xa us.toArray:=by
  have hf:=Ze2 (0*i.size) us ((Tc (1*i.size)).map fun x=>z.cells[x % z.cells.size]!) (by simp;omega)
  simp only [Instr.fill]
  have hcz:(Value.agg us.toArray).cells=us.toArray:=rfl
  rw [hcz]
  rw [if_neg (by simp;omega)]
  rw [hf]
  refine congrArg Xa ?_
  have h1:(((Tc (1*i.size)).map fun x=>z.cells[x % z.cells.size]!).toList.drop (0*i.size+us.length)) = []:=UQ (by simp;omega)
  rw [h1]
  simp
 have hrun:(execOp (Act.eval ⟨tm,[]⟩) o).run P w = .ok (.value (.slice (Xa ⟨N,0,Xe⟩) 1 1)) (w.alloc (.cells us.toArray e)):=by
  have hnb:¬ (2^24 < 1*i.size):=by omega
  have hnz:¬ (1*i.size=0):=by omega
  have hb:(Instr.buildSlice T 1 #[(0,.agg us.toArray)]).run P w = .ok (.slice (Xa ⟨N,0,Xe⟩) 1 1) (w.alloc (.cells us.toArray e)):=by
   simp only [Instr.buildSlice,Sem.run_bind,run_underlying hT,Result.andThen_ok,sizeOf,typeInfo,run_program,hi,Sem.run_pure,gt_iff_lt,if_neg hnb,if_neg hnz,zeroValue,hz]
   rw [hfill,hN]
   simp [newRow]
  simp only [execOp,ho,Sem.run_bind,UB,Xk,XL,hev,hb,Result.andThen_ok,Sem.run_pure]
 -- the slots
 have h1:=hsim.aggoOut ht'
 have hstep:=Yu w lim us.toArray e 0 (fun _=>False)
 obtain ⟨lim',hlim⟩:∃ lim':Nat→Nat,lim'=fun b=>if b=w.heap.size then 0 else lim b:=⟨_,rfl⟩
 obtain ⟨w',hw'⟩:∃ w',w'=w.alloc (.cells us.toArray e):=⟨_,rfl⟩
 rw [← hlim,← hw'] at hstep
 have h2:=h1.world hstep fun _ hs=>hs.elim
 have hnew:w'.heap[N]? = Xa (.cells us.toArray e (0,0)):=by rw [hw',hN];exact JW w _ e
 have htn:t < c.nt:=JJ hsim (by rw [ht'];exact fun h=>by cases h) (by rw [ht'];rfl)
 have hX1:∀ d k b,Ke X t Jx d k=Xa b→d≠t∧X d k=Xa b:=fun d k b hb=>by
  by_cases hd:d=t
  ·subst hd;rw [Zo] at hb;cases hb
  ·rw [Zj X Jx hd] at hb;exact ⟨hd,hb⟩
 obtain ⟨Y,hY⟩:∃ Y:Nat→Option Nat,Y=fun j=>if (match cs[j]? with | some (.own Xb _ _)=>Xb | _=>Xc)=Xb then X t (j+1) else Xe:=⟨_,rfl⟩
 have hYs:∀ j b,Y j=Xa b→X t (j+1)=Xa b:=fun j b hb=>by
  rw [hY] at hb
  dsimp only at hb
  split at hb
  ·exact hb
  ·cases hb
 have hfresh:∀ d k,Ke X t Jx d k≠Xa N:=fun d k he=>by
  have:=(hsim.ours d k N (hX1 d k N he).2).1
  omega
 have h3:=h2.graft (X2:=Ke (Ke X t Jx) (ngN+N) Y) (fun b=>b=N) (fun d hd=>Zj _ _ (by omega)) (fun b hb=>Zj _ _ (by omega))
  (fun b hb=>by subst hb;exact ⟨(Ua.1 hnew).1,hfresh⟩) (fun b k b' hb hk=>by
   subst hb
   rw [Zo] at hk
   have hk':=hYs k b' hk
   obtain ⟨m1,m2⟩:=hsim.ours t (k+1) b' hk'
   refine ⟨XO m1 hstep.size,m2,fun d j hd=>?_,fun b2 k2 hb2 hk2=>?_⟩
   ·obtain ⟨q1,q2⟩:=hX1 d j b' hd
    exact (q1 (hsim.dist d j t (k+1) b' q2 hk').1).elim
   ·subst hb2
    rw [Zo] at hk2
    have:=(hsim.dist t (k2+1) t (k+1) b' (hYs k2 b' hk2) hk').2
    exact ⟨rfl,by omega⟩)
 have hflat:∀ j:Nat,([cs.map (ZmN P)] : List (List AV)).flatten[j]? = (cs[j]?).map (ZmN P):=fun j=>by
  simp only [List.flatten_cons,List.flatten_nil,Us,Xl]
 have hown1:Vz c.P w' lim' Xb e [cs.map (ZmN P)] (.slice (Xa ⟨N,0,Xe⟩) 1 1) (Xa N):=by
  refine .inl ⟨us,⟨by rw [hul,hn,hc,hsz];simp,.inr ⟨N,1,us.toArray,rfl,XZ _,hnew,XA _,by unfold maxLen;omega,by simp [hc,hsz,hul,hn],by rw [hc,hsz,← hn,← hul];simp⟩⟩,rfl,fun b hb=>?_,fun x hx=>?_,fun x hx y hy=>?_,fun j y u hy hu=>?_⟩
  ·simp only [Xf] at hb
   subst hb
   rw [hlim,hN]
   simp
  ·rw [XH.1 hx,Xi,hn,hc,hsz]
  ·rw [XH.1 hx] at hy
   obtain ⟨y0,hy0,rfl⟩:=Xm.1 hy
   exact Zna (hok y0 hy0)
  ·rw [hflat] at hy
   cases hcj:cs[j]? with
   | none => rw [hcj] at hy; cases hy
   | some c0 =>
    rw [hcj] at hy
    simp only [Xv,Xf] at hy
    subst hy
    have hr:=hcell j c0 u hcj hu
    rcases hok c0 (Xj hcj) with ⟨g1,_⟩ | ⟨e1,ys,rfl,g2⟩
    ·rw [Zmu g1]
     have:Rep w lim c0 u:=by cases c0<;>first | exact hr | (simp [AV.isCell] at g1;done)
     exact this.mono hstep.ext
    ·have h0:ZY c.P w lim Xb e1 ys u (X t (j+1)):=hr
     obtain ⟨a,n,cap,rfl⟩:=Zk7 (Wr h0 (by rw [hc];exact g2))
     exact .nest
 refine Zs hrun (hnx _ _ ?_)
 rw [← hw']
 show ZkD c o.dst (upd σ' t .dead) _ tm _ w'
 refine Z3 h3 (.inr (.inr ⟨rfl,.inr (.inl ⟨hdp',by rw [hbe,hc];exact hnm,by rw [hbe];exact hown1⟩)⟩)) (fun b hb=>?_) (fun _=>.mv (.inr (.inl hdp'))) fun _ _ b hb=>?_
 ·simp only [Xf] at hb
  subst hb
  refine ⟨.inr (by rw [hN];exact hsim.frm.size),fun d k he=>?_⟩
  by_cases hd:d=ngN+N
  ·subst hd
   rw [Zo] at he
   have:=(hsim.ours t (k+1) N (hYs k N he)).1
   omega
  ·rw [Zj _ _ hd] at he
   exact hfresh d k he
 ·simp only [Xf] at hb
  subst hb
  rw [Zo]
  refine ⟨⟨us.toArray,by rw [hbe];exact hnew⟩,fun j s e1 ys u hj hu=>?_⟩
  rw [hflat] at hj
  cases hcj:cs[j]? with
  | none => rw [hcj] at hj; cases hj
  | some c0 =>
   rw [hcj] at hj
   simp only [Xv,Xf] at hj
   have huj:us[j]? = Xa u:=by rw [Zl hnew] at hu;simpa using hu
   rcases hok c0 (Xj hcj) with ⟨g1,g3⟩ | ⟨e2,ys2,rfl,g2⟩
   ·rw [Zmu g1] at hj
    rw [hj] at g3
    cases g3
   ·simp only [ZmN,AV.nest.injEq,true_and] at hj
    obtain ⟨rfl,rfl,rfl⟩:=hj
    have h0:ZY c.P w lim Xb e2 ys2 u (X t (j+1)):=hcell j _ u hcj huj
    have hYj:Y j=X t (j+1):=by rw [hY];dsimp only;rw [hcj];rfl
    rw [hYj]
    refine ⟨by rw [hc],by rw [hc];exact g2,(Wr h0 (by rw [hc];exact g2)).mono hstep.ext fun b' hb'=>hstep.blk b' (hsim.ours t (j+1) b' hb').1 fun hs=>hs.elim⟩
set_option maxHeartbeats 2000000 in
theorem ZbF {P:Program} {o:Oper} {σ:Nat→AV} {cl:Call} {T e:TypeId} {i:TypeInfo} {z:Value} {tx ty:Nat} {xs ys:List (List AV)} (ho:o.op = .call cl) (hcl:cl.callee = .builtin .append)
  (hargs:cl.args.toList = [.tmp tx,.tmp ty]) (hts:cl.argTypes.toList = [T,T]) (hT:P.underlying T=Xa (.slice e)) (hi:P.info? e=Xa i) (hz:i.zero=Xa z) (hzs:z.cells.size=i.size)
  (hx:σ tx = .own Xb (e+2097152) xs) (hy:σ ty = .own Xb (e+2097152) ys) (hne:ty≠tx) (hroom:(xs.length+ys.length)*(i.bytes+1)≤Jc) (hnm:Zk P e=Xc) (hdp:Zg P (e+2097152)=Xb)
  (hrx:∀ j k,¬ Jl (σ j) tx k) (hry:∀ j k,¬ Jl (σ j) ty k) :
  Kc .text P o σ (.own Xb (e+2097152) (xs++ys)) [(tx,.dead),(ty,.dead)] []:=by
 have hargs':cl.args = #[.tmp tx,.tmp ty]:=by apply XR.1;rw [hargs]
 have hts':cl.argTypes = #[T,T]:=by apply XR.1;rw [hts]
 intro c hc σ' tm w lim X hid hag hTx hsim next Q hnx
 have hσ:σ'=σ:=hTx
 subst hσ
 obtain ⟨D,hD⟩:∃ D,D=e+2097152:=⟨_,rfl⟩
 rw [← hD] at hx hy hdp hnx
 have hbe:bT D=e:=by rw [hD] at hdp ⊢; exact Zgf hdp
 have hdp':Zg c.P D=Xb:=by rw [hc];exact hdp
 have hnm':Zk c.P e=Xc:=by rw [hc];exact hnm
 -- both slots are given up
 obtain ⟨h1,hox,hfx⟩:=hsim.free hx (fun i k _ hr=>hrx i k hr)
 have hy1:upd σ' tx (K8 c.P Xb D xs) ty = .own Xb D ys:=by rw [Zf _ _ hne];exact hy
 obtain ⟨h2,hoy,hfy⟩:=h1.free hy1 (fun i k _ hr=>by
  by_cases hi:i=tx
  ·subst hi;rw [ZC] at hr;rcases hr with hr | ⟨_,hr⟩ <;> cases hr
  ·rw [Zf _ _ hi] at hr;exact hry i k hr)
 obtain ⟨X1,hX1⟩:∃ X1,X1=Ke X tx Jx:=⟨_,rfl⟩
 rw [← hX1] at h1 h2 hoy hfx hfy
 obtain ⟨X2,hX2⟩:∃ X2,X2=Ke X1 ty Jx:=⟨_,rfl⟩
 rw [← hX2] at h2 hfy
 have hX1y:X1 ty=X ty:=by rw [hX1];exact Zj X Jx hne
 rw [hX1y] at hoy hfy
 have hle1:∀ d k b,X1 d k=Xa b→d≠tx∧X d k=Xa b:=fun d k b hb=>by
  rw [hX1] at hb
  by_cases hd:d=tx
  ·subst hd;rw [Zo] at hb;cases hb
  ·rw [Zj X Jx hd] at hb;exact ⟨hd,hb⟩
 have hle2:∀ d k b,X2 d k=Xa b→d≠tx∧d≠ty∧X d k=Xa b:=fun d k b hb=>by
  rw [hX2] at hb
  by_cases hd:d=ty
  ·subst hd;rw [Zo] at hb;cases hb
  ·rw [Zj X1 Jx hd] at hb
   obtain ⟨q1,q2⟩:=hle1 d k b hb
   exact ⟨q1,hd,q2⟩
 have hxn:tx < c.nt:=JJ hsim (by rw [hx];exact fun h=>by cases h) (by rw [hx];rfl)
 have hyn:ty < c.nt:=JJ hsim (by rw [hy];exact fun h=>by cases h) (by rw [hy];rfl)
 have hng:c.nt≤ngN:=hsim.ntN
 have hdbx:ZdH c.P w D (X tx 0):=hsim.deepB (k:=0) (xs:=xs) (by rw [hx];rfl)
 have hdby:ZdH c.P w D (X ty 0):=hsim.deepB (k:=0) (xs:=ys) (by rw [hy];rfl)
 have hx1:Vz c.P w lim Xb e xs (tm.getD tx undef) (X tx 0):=by have:=hox.one (.inr hdp') hdbx;rwa [hbe] at this
 have hyo:Vz c.P w lim Xb e ys (tm.getD ty undef) (X ty 0):=by have:=hoy.one (.inr hdp') hdby;rwa [hbe] at this
 have hnx1:∀ b,X tx 0=Xa b→VK c.P w lim D xs b (X (ngN+b)):=fun b hb=>hsim.nst tx 0 D xs b (by rw [hx];rfl) hdp' hb
 have hny1:∀ b,X ty 0=Xa b→VK c.P w lim D ys b (X (ngN+b)):=fun b hb=>hsim.nst ty 0 D ys b (by rw [hy];rfl) hdp' hb
 have hevx:Act.eval ⟨tm,[]⟩ (.tmp tx)=tm.getD tx undef:=rfl
 have hevy:Act.eval ⟨tm,[]⟩ (.tmp ty)=tm.getD ty undef:=rfl
 have hupd:JC σ' [(tx,.dead),(ty,.dead)]=upd (upd σ' tx (K8 c.P Xb D xs)) ty (K8 c.P Xb D ys):=rfl
 have hexec:∀ v' w',(Builtin.append_ #[T,T] o.type #[tm.getD tx undef,tm.getD ty undef]).run P w = .ok v' w'→(execOp (Act.eval ⟨tm,[]⟩) o).run P w = .ok (.value v') w':=fun v' w' hr=>by
  simp only [execOp,ho,resolve,hcl,hargs',hts',UB,Xk,XL,Sem.run_bind,Sem.run_pure,Result.andThen_ok,invoke,builtin,hevx,hevy,hr]
 by_cases hys:ys = []
 ·subst hys
  have hvy:∃ a cap,tm.getD ty undef = .slice a 0 cap:=by
   rcases hyo with ⟨us,hr,_⟩ | ⟨_,_,a,hv⟩
   ·rcases hr.2 with ⟨hv,_⟩ | ⟨g,cap,cur,hv,_⟩
    ·exact ⟨_,_,hv⟩
    ·exact ⟨_,_,hv⟩
   ·exact ⟨_,_,hv⟩
  have hvx:∃ base cap,tm.getD tx undef = .slice base xs.length cap∧xs.length≤cap:=by
   rcases hx1 with ⟨us,hr,_⟩ | ⟨rfl,_,a,hv⟩
   ·rcases hr.2 with ⟨hv,hn⟩ | ⟨g,cap,cur,hv,_,_,hnc,_⟩
    ·exact ⟨Xe,0,by rw [hv,hn],by omega⟩
    ·exact ⟨_,cap,hv,hnc⟩
   ·exact ⟨_,0,hv,XA _⟩
  obtain ⟨a,cap,hvy⟩:=hvy
  obtain ⟨base,cap',hvx,hle⟩:=hvx
  refine Zs (hexec (tm.getD tx undef) w ?_) (hnx _ w ?_)
  ·rw [hvx,hvy];exact VN hT hi w base xs.length cap' hle a cap
  ·rw [hupd,Us]
   refine Z3 h2 hox (fun b hb=>⟨(hfx b hb).1,fun d k he=>?_⟩) (fun _=>.mv (.inr (.inl hdp'))) fun _ _ b hb=>?_
   ·obtain ⟨q1,q2,q3⟩:=hle2 d k b he
    exact q1 (hsim.dist d k tx 0 b q3 hb).1
   ·have:X2 (ngN+b)=X (ngN+b):=by rw [hX2,Zj X1 Jx (by omega),hX1,Zj X Jx (by omega)]
    rw [this]
    exact hnx1 b hb
 ·rcases hyo with ⟨vs,hr,hob,hlimy,hyl,hyc,hyr⟩ | ⟨hye,_⟩
  case inr=>exact (hys hye).elim
  rcases hr.2 with ⟨_,hn⟩ | ⟨b2,cap2,cur2,hv2,hb2,hg2,hnc2,hcm2,hcs2,htk2⟩
  ·exact (hys (Ub hn)).elim
  have hXy:X ty 0=Xa b2:=by rw [← hob,hv2];rfl
  have hvcell:∀ (j:Nat) (u:Value),vs[j]? = Xa u→w.cell? ⟨b2,0+j,Xe⟩=Xa u:=fun j u hj=>by
   have:=hr.cells (g:=b2) (by rw [hv2];rfl) j u hj
   rw [Jk] at this
   exact this
  obtain ⟨v',w',lim',ob',r1,r2,r3,r4,us,b',arr,r5,r6,r7,r8,r9⟩:=Zc4 (ty:=o.type) (x:=Xb) (by rw [hc];exact hT) (by rw [hc];exact hi) hz hzs hx1.own hys hv2 hyl hyc hr.1 hvcell hyr hroom hnm'
  rw [hc] at r1
  subst r5
  obtain ⟨L,hL⟩:∃ L,L=xs.length*c.P.cellsOf e:=⟨_,rfl⟩
  have hxl:∀ x∈xs,x.length=c.P.cellsOf e:=by
   rcases hx1 with ⟨_,_,_,_,h4,_⟩ | ⟨rfl,_⟩
   ·exact h4
   ·simp
  have hfl:xs.flatten.length=L:=by rw [Zh xs _ hxl,hL]
  have hul:us.length=L:=by rw [r6,hL]
  have hbx:∀ b,X tx 0=Xa b→∀ d k,X2 d k≠Xa b:=fun b hb d k he=>by
   obtain ⟨q1,q2,q3⟩:=hle2 d k b he
   exact q1 (hsim.dist d k tx 0 b q3 hb).1
  have hby:∀ d k,X2 d k≠Xa b2:=fun d k he=>by
   obtain ⟨q1,q2,q3⟩:=hle2 d k b2 he
   exact q2 (hsim.dist d k ty 0 b2 q3 hXy).1
  have h3:=h2.world r3 (fun b hb=>⟨(hfx b hb).1,hbx b hb⟩)
  have hnew:∀ d k,X d k≠Xa w.heap.size:=fun d k he=>by
   have:=(hsim.ours d k _ he).1
   omega
  have hb'X:∀ d k,X2 d k≠Xa b':=fun d k=>by
   rcases r4 with r4 | r4
   ·exact hbx b' r4.symm d k
   ·intro he
    simp only [Xf] at r4
    exact hnew d k (r4 ▸ (hle2 d k b' he).2.2)
  have hb'l:b' < w'.heap.size:=(Ua.1 r7).1
  -- what the cells own
  obtain ⟨Y,hY⟩:∃ Y:Nat→Option Nat,Y=fun j=>if j < L then (match X tx 0 with | some b=>X (ngN+b) j | none=>Xe) else X (ngN+b2) (j-L):=⟨_,rfl⟩
  have hYs:∀ j b,Y j=Xa b→(∃ b1,X tx 0=Xa b1∧j < L∧X (ngN+b1) j=Xa b)∨(L≤j∧X (ngN+b2) (j-L)=Xa b):=fun j b hb=>by
   rw [hY] at hb
   dsimp only at hb
   split at hb
   ·rename_i hj
    cases hx0:X tx 0 with
    | none => rw [hx0] at hb; cases hb
    | some b1 => rw [hx0] at hb; exact .inl ⟨b1, rfl, hj, hb⟩
   ·exact .inr ⟨by omega,hb⟩
  obtain ⟨X3,hX3⟩:∃ X3:Nat→Nat→Option Nat,X3=fun d=>if d=ngN+b' then Y else if d=ngN+b2∨(∃ b1,X tx 0=Xa b1∧d=ngN+b1) then Jx else X2 d:=⟨_,rfl⟩
  have hb12:∀ b1,X tx 0=Xa b1→b1≠b2:=fun b1 hb1 he=>by
   subst he
   exact hne (hsim.dist ty 0 tx 0 b1 hXy hb1).1
  have h4:=h3.graft (X2:=X3) (fun b=>b=b'∨b=b2∨X tx 0=Xa b) (fun d hd=>by
    rw [hX3]
    dsimp only
    rw [if_neg (by omega),if_neg (by rintro (h | ⟨_,_,h⟩)<;>omega)]) (fun b hb=>by
    rw [hX3]
    dsimp only
    rw [if_neg (fun h=>hb (.inl (by omega))),if_neg (by
     rintro (h | ⟨b1,q1,h⟩)
     ·exact hb (.inr (.inl (by omega)))
     ·exact hb (.inr (.inr (by rw [q1];exact congrArg Xa (by omega)))))])
   (fun b hb=>by
    rcases hb with rfl | rfl | hb
    ·exact ⟨hb'l,hb'X⟩
    ·exact ⟨XO (hsim.ours ty 0 _ hXy).1 r3.size,hby⟩
    ·exact ⟨XO (hsim.ours tx 0 _ hb).1 r3.size,hbx b hb⟩)
   (fun b k bb hb hk=>by
    have hkY:b=b'∧Y k=Xa bb:=by
     rw [hX3] at hk
     dsimp only at hk
     by_cases he:b=b'
     ·subst he;rw [if_pos rfl] at hk;exact ⟨rfl,hk⟩
     ·rw [if_neg (by omega)] at hk
      rcases hb with h | rfl | hb
      ·exact (he h).elim
      ·rw [if_pos (.inl rfl)] at hk;cases hk
      ·rw [if_pos (.inr ⟨b,hb,rfl⟩)] at hk;cases hk
    obtain ⟨rfl,hkY⟩:=hkY
    -- the block is owned by one of the two slices' cells
    have hsrc:∃ d0 k0,X d0 k0=Xa bb∧((∃ b1,X tx 0=Xa b1∧d0=ngN+b1)∨d0=ngN+b2):=by
     rcases hYs k bb hkY with ⟨b1,q1,_,q2⟩ | ⟨_,q2⟩
     ·exact ⟨_,_,q2,.inl ⟨b1,q1,rfl⟩⟩
     ·exact ⟨_,_,q2,.inr rfl⟩
    obtain ⟨d0,k0,q0,qd⟩:=hsrc
    refine ⟨XO (hsim.ours d0 k0 bb q0).1 r3.size,(hsim.ours d0 k0 bb q0).2,fun d j hd=>?_,fun b3 k3 hb3 hk3=>?_⟩
    ·obtain ⟨_,_,q3⟩:=hle2 d j bb hd
     have hdd:=(hsim.dist d j d0 k0 bb q3 q0).1
     rcases qd with ⟨b1,q1,q2⟩ | q2
     ·exact ⟨by omega,.inr (.inr (by rw [q1];exact congrArg Xa (by omega)))⟩
     ·exact ⟨by omega,.inr (.inl (by omega))⟩
    ·have hkY3:b3=b∧Y k3=Xa bb:=by
      rw [hX3] at hk3
      dsimp only at hk3
      by_cases he:b3=b
      ·subst he;rw [if_pos rfl] at hk3;exact ⟨rfl,hk3⟩
      ·rw [if_neg (by omega)] at hk3
       rcases hb3 with h | rfl | hb3
       ·exact (he h).elim
       ·rw [if_pos (.inl rfl)] at hk3;cases hk3
       ·rw [if_pos (.inr ⟨b3,hb3,rfl⟩)] at hk3;cases hk3
     obtain ⟨rfl,hkY3⟩:=hkY3
     refine ⟨rfl,?_⟩
     rcases hYs k bb hkY with ⟨b1,q1,q2,q3⟩ | ⟨q2,q3⟩ <;> rcases hYs k3 bb hkY3 with ⟨b1',p1,p2,p3⟩ | ⟨p2,p3⟩
     ·exact (hsim.dist _ k3 _ k bb p3 q3).2
     ·have:=(hsim.dist _ _ _ _ bb p3 q3).1
      exact (hb12 b1 q1 (by omega)).elim
     ·have:=(hsim.dist _ _ _ _ bb p3 q3).1
      exact (hb12 b1' p1 (by omega)).elim
     ·have:=(hsim.dist _ _ _ _ bb p3 q3).2
      omega)
  have hX3b:X3 (ngN+b')=Y:=by rw [hX3];exact if_pos rfl
  refine Zs (hexec v' w' r1) (hnx _ w' ?_)
  rw [hupd]
  have hkeep:∀ d k b,ngN≤d→X d k=Xa b→ZfM w lim w' lim' b:=fun d k b hd hb=>r3.blk b (hsim.ours d k b hb).1 fun hs=>by
   have:=(hsim.dist d k tx 0 b hb hs).1
   omega
  refine Z3 h4 (.inr (.inr ⟨rfl,.inr (.inl ⟨hdp',by rw [hbe];exact hnm',by rw [hbe];exact Wr r2 hnm'⟩)⟩)) (fun b hb=>?_) (fun _=>.mv (.inr (.inl hdp'))) fun _ _ b hb=>?_
  ·simp only [Xf] at hb
   subst hb
   refine ⟨?_,fun d k he=>?_⟩
   ·rcases r4 with r4 | r4
    ·exact (hfx _ r4.symm).1
    ·simp only [Xf] at r4
     rw [r4]
     exact .inr hsim.frm.size
   ·rw [hX3] at he
    dsimp only at he
    split at he
    ·have hb'n:∀ d0 k0,ngN≤d0→X d0 k0≠Xa b':=fun d0 k0 hd0 hk0=>by
      rcases r4 with r4 | r4
      ·have:=(hsim.dist d0 k0 tx 0 b' hk0 r4.symm).1
       omega
      ·simp only [Xf] at r4
       exact hnew d0 k0 (r4 ▸ hk0)
     rcases hYs k b' he with ⟨b1,_,_,q3⟩ | ⟨_,q3⟩
     ·exact hb'n _ _ (by omega) q3
     ·exact hb'n _ _ (by omega) q3
    ·split at he
     ·cases he
     ·exact hb'X d k he
  ·simp only [Xf] at hb
   subst hb
   rw [hX3b]
   refine ⟨⟨arr,by rw [hbe];exact r7⟩,fun j s e1 zs u hz hu=>?_⟩
   rw [Zl r7] at hu
   have hyfl:ys.flatten.length=vs.length:=by rw [Zh ys _ hyl,hr.1]
   have hjl:j < L+vs.length:=by
    have:=(Xn.1 hz).1
    rw [UF,Xr,hfl,hyfl] at this
    exact this
   have huv:(us++vs)[j]? = Xa u:=by
    rw [← r8,Xz,if_pos (by rw [Xr,hul];exact hjl)]
    simpa using hu
   rw [UF] at hz
   by_cases hj:j < L
   ·rw [XE (by omega)] at hz huv
    cases hx0:X tx 0 with
    | none =>
     exfalso
     rcases hx1 with ⟨us1,hr1,hob1,_⟩ | ⟨hxe,_⟩
     ·rcases hr1.2 with ⟨_,hn⟩ | ⟨g,cap,cur,hv,_⟩
      ·rw [hL,hn] at hj;simp at hj
      ·rw [hv,hx0] at hob1;cases hob1
     ·rw [hL,hxe] at hj;simp at hj
    | some b1 =>
     have hYj:Y j=X (ngN+b1) j:=by rw [hY];dsimp only;rw [if_pos hj,hx0]
     rw [hYj]
     obtain ⟨q1,q2,q3⟩:=(hnx1 b1 hx0).2 j s e1 zs u hz (r9 b1 hx0 j u huv)
     exact ⟨q1,q2,q3.mono r3.ext fun b hb=>hkeep _ _ b (by omega) hb⟩
   ·rw [XB (by omega),hfl] at hz
    rw [XB (by omega),hul] at huv
    have hYj:Y j=X (ngN+b2) (j-L):=by rw [hY];dsimp only;rw [if_neg hj]
    rw [hYj]
    have hc2:=hvcell (j-L) u huv
    rw [XM] at hc2
    obtain ⟨q1,q2,q3⟩:=(hny1 b2 hXy).2 (j-L) s e1 zs u hz hc2
    exact ⟨q1,q2,q3.mono r3.ext fun b hb=>hkeep _ _ b (by omega) hb⟩
open Go.MapKept
theorem Zed {P:Program} {T:TypeId} {z:Value} (h:KS P T=Xa z):∃ kt vt i,P.underlying T=Xa (.map kt vt)∧P.underlying kt=Xa (.int .i64)∧P.info? vt=Xa i∧i.zero=Xa z∧Yn z z=Xb:=by
 unfold KS at h
 split at h
 ·rename_i kt vt hT
  split at h
  ·rename_i i h1 h2
   split at h
   ·rename_i b hz
    cases h
    exact ⟨kt,vt,i,hT,h1,h2,hz,rfl⟩
   ·rename_i k z0 hz
    cases h
    exact ⟨kt,vt,i,hT,h1,h2,hz,by simp [Yn]⟩
   ·cases h
  ·cases h
 ·cases h
theorem KA {u z:Value} (h:Yn u z=Xb):Zdu u=Xb:=by
 cases u<;>cases z<;>simp [Yn] at h<;>rfl
theorem Zhy {c:Ctx} {σ:Nat→AV} {tm:Array Value} {w:World} {lim:Nat→Nat} {X:Nat→Nat→Option Nat} (h:Sim c σ tm w lim X) {d:Nat} {e:TypeId} {kvs:List (List AV)} {z:Value} (hd:σ d = .own Xb e [[.slice Xc 2 kvs]]) (h0:c.P.cellsOf e=0) (hz:KS c.P (e-1048576)=Xa z) (hk:JD c.P (e-1048576)=Xe) (hlt:e < 2097152) :
  ∃ b es clock,X d 0=Xa b∧tm.getD d undef = .map (Xa b)∧w.heap[b]? = Xa (.map es clock)∧lim b=0∧es.size=kvs.length∧Stamped es clock∧
   ∀ (i:Nat) (en:MapEntry) (row:List AV),es[i]? = Xa en→kvs[i]? = Xa row→∃ (k:Int) (u:Value),row = [.val (.int .i64 k),.val u]∧en.key = .int .i64 k∧en.val=u∧Yn u z=Xb:=by
 have hr:=h.rel d
 rw [hd] at hr
 rcases (show ZY c.P w lim Xb e _ _ (X d 0) from hr) with ⟨us,_,_,_,h4,_⟩ | ⟨h1,_⟩ | ⟨_,⟨_,_,_,_,_,_,het,_⟩ | ⟨hd',_⟩ | ⟨_,b,es,clock,kvs',z',⟨hz',_,_⟩,h1,h2,h3,h4,h5,h6,h7,h8⟩⟩
 ·have:=h4 _ (XH.2 rfl)
  rw [h0] at this
  cases this
 ·cases h1
 ·rw [hk] at het;cases het
 ·rw [YI hlt] at hd';cases hd'
 ·simp only [List.cons.injEq,AV.slice.injEq,true_and,and_true] at h5
  subst h5
  rw [hz] at hz'
  cases hz'
  exact ⟨b,es,clock,h1,h2,h3,h4,h6,h7,h8⟩
theorem Zrn {c:Ctx} {σ:Nat→AV} {tm:Array Value} {w:World} {lim:Nat→Nat} {X:Nat→Nat→Option Nat} (h:Sim c σ tm w lim X) {d k:Nat} {e:TypeId} {kvs:List (List AV)} {z:Value} (hd:σ d = .own Xb e [[.slice Xc 2 kvs]]) (h0:c.P.cellsOf e=0) (hz:KS c.P (e-1048576)=Xa z) (hk:JD c.P (e-1048576)=Xe) (hlt:e < 2097152) {v:Value}
  (hv:ZZ c.P w lim X σ k (.mref d 0) v):v=tm.getD d undef:=by
 obtain ⟨b,es,clock,h1,h2,h3,_⟩:=Zhy h hd h0 hz hk hlt
 obtain ⟨e',xs',m1,m2⟩:=hv
 rw [hd] at m1
 simp only [Zr,Xf,Xo] at m1
 obtain ⟨rfl,rfl⟩:=m1
 rcases m2 with ⟨m2,_⟩ | ⟨b',arr,cap,m2,m3,_⟩ | ⟨_,_,b',arr,cap,m2,m3,_⟩ | ⟨_,_,b',es',clock',m2,m3,m4⟩
 ·rw [h1] at m2;cases m2
 ·rw [h1] at m2;cases m2;rw [h3] at m3;cases m3
 ·rw [h1] at m2;cases m2;rw [h3] at m3;cases m3
 ·rw [h1] at m2;cases m2;rw [m4,h2]
theorem Zfy {P:Program} {o:Oper} {σ:Nat→AV} {T:TypeId} {z:Value} (ho:o.op = .makeMap T Xe) (hz:KS P T=Xa z) (hk:JD P T=Xe) (hlt:T+1048576 < 2097152):JO P o σ (.own Xb (T+1048576) [[.slice Xc 2 []]]) [] []:=by
 intro c hc σ' tm w lim X hid hag hsim next Q hn
 have hstep:=ZgN (w:=w) (lim:=lim) (.map #[] 0) (fun _=>False)
 have hw2:=hsim.world hstep fun _ hs=>hs.elim
 have hnew:(w.alloc (.map #[] 0)).heap[w.heap.size]? = Xa (.map #[] 0):=heap_alloc_new w _
 refine Zs (v:=.map (Xa w.heap.size)) (w':=w.alloc (.map #[] 0)) ?_ (hn _ _ (Z3 (ob:=Xa w.heap.size) hw2 (.inr (.inr ⟨rfl,.inr (.inr ⟨by simp [Zk],w.heap.size,#[],0,[],z,⟨by rw [X5,hc];exact hz,by rw [X5,hc];exact hk,hlt⟩,rfl,rfl,hnew,if_pos rfl,rfl,rfl,stamped_empty 0,fun i en row h=>by simp at h⟩)⟩)) (fun b hb=>?_) (fun _=>.mv (.inr (.inr (.inl rfl)))) fun _ hd=>by rw [YI hlt] at hd;cases hd))
 ·have hr:(Instr.makeMap T Xe).run P w = .ok (.map (Xa w.heap.size)) (w.alloc (.map #[] 0)):=rfl
  simp only [execOp,ho,Option.map_none,hr,Sem.run_bind,Result.andThen_ok,Sem.run_pure]
 ·cases hb
  exact ⟨.inr hsim.frm.size,fun i j=>Kh hsim i j⟩
theorem Zgm {c:Ctx} {σ:Nat→AV} {tm:Array Value} {w:World} {lim:Nat→Nat} {X:Nat→Nat→Option Nat} (h:Sim c σ tm w lim X) {d:Nat} {e T:TypeId} {kvs:List (List AV)} {z:Value} (hd:σ d = .own Xb e [[.slice Xc 2 kvs]]) (h0:c.P.cellsOf e=0) (he:e=T+1048576) (hz:KS c.P T=Xa z) (hk:JD c.P T=Xe) (hlt:e < 2097152) (k:Int) (ok:Bool) :
  ∃ u f,ZbJ [[.slice Xc 2 kvs]] k [.val z] = [[.val u,.val (.bool f)]]∧Yn u z=Xb∧(Instr.lookup T (tm.getD d undef) (.int .i64 k) ok).run c.P w = .ok (if ok=Xb then .tuple #[u,.bool f] else u) w:=by
 have hz':KS c.P (e-1048576)=Xa z:=by rw [he,X5];exact hz
 have hk':JD c.P (e-1048576)=Xe:=by rw [he,X5];exact hk
 obtain ⟨b,es,clock,hX,hv,hb,hlb,hl,hs,hr⟩:=Zhy h hd h0 hz' hk' hlt
 obtain ⟨kt,vt,i,hT,hkt,hi,hzz,hsc⟩:=Zed hz
 obtain ⟨_,hfind⟩:=ZcX hl hs (fun i en row h1 h2=>by obtain ⟨k,u,g1,g2,_⟩:=hr i en row h1 h2;exact ⟨k,_,g1,g2⟩) k
 have hzr:(zeroValue vt).run c.P w = .ok z w:=by simp [zeroValue,typeInfo,run_program,hi,hzz]
 rcases hfind with ⟨h1,_,h2⟩ | ⟨j,en,row,h1,h2,h3,h4,h5,h6,h7⟩
 ·have hgn:kvs.find? (fun r=>Z1 r == Xa k)=Xe:=List.find?_eq_none.2 fun r hr=>by simpa using h2 r hr
  refine ⟨z,Xc,by simp [ZbJ,JY,hgn],hsc,?_⟩
  ·rw [hv]
   cases ok<;>simp [Instr.lookup,run_underlying hT,MapKept.run_getObj_map hb,MapKept.run_checkKey hkt (Yf k),MapKept.run_findKey hkt h1,hzr,Result.andThen]
 ·obtain ⟨k2,u,p1,p2,p3,p4⟩:=hr j en row h2 h3
  refine ⟨u,Xb,by simp [ZbJ,JY,h6,p1],p4,?_⟩
  rw [hv,← p3]
  cases ok<;>simp [Instr.lookup,run_underlying hT,MapKept.run_getObj_map hb,MapKept.run_checkKey hkt (Yf k),MapKept.run_findKey hkt h1,Result.andThen]
theorem Zhl {P:Program} {o:Oper} {σ:Nat→AV} {T e:TypeId} {m kx:Operand} {d:Nat} {kvs:List (List AV)} {k:Int} {z u:Value} {f:Bool} (ho:o.op = .lookup T m kx Xc) (hz:KS P T=Xa z) (hk:JD P T=Xe) (hlt:e < 2097152) (hm:Zt P σ m = .mref d 0) (hd:σ d = .own Xb e [[.slice Xc 2 kvs]]) (h0:P.cellsOf e=0) (he:e=T+1048576)
  (hkx:Zt P σ kx = .val (.int .i64 k)) (hrow:ZbJ [[.slice Xc 2 kvs]] k [.val z] = [[.val u,.val (.bool f)]]):JO P o σ (.val u) [] [d]:=by
 refine ZK [d] rfl fun c hc σ' tm w lim X hg hfp hsim=>?_
 subst hc
 rw [ho] at hg
 have hv:=Yj rfl hsim hm (hg m (by simp [Op.operands]))
 have hkv:=Jh rfl hsim hkx (hg kx (by simp [Op.operands]))
 have hd':σ' d = .own Xb e [[.slice Xc 2 kvs]]:=by rw [hfp d (by simp),hd]
 have hmv:=Zrn hsim hd' h0 (by rw [he,X5];exact hz) (by rw [he,X5];exact hk) hlt hv
 obtain ⟨u',f',g1,g2,g3⟩:=Zgm hsim hd' h0 he hz hk hlt k Xc
 rw [hrow] at g1
 simp only [List.cons.injEq,AV.val.injEq,Value.bool.injEq,and_true] at g1
 obtain ⟨rfl,rfl⟩:=g1
 rw [if_neg (by simp)] at g3
 refine ⟨u,?_,.val (KA g2)⟩
 simp only [execOp,ho,hmv,hkv,g3,Sem.run_bind,Result.andThen_ok,Sem.run_pure]
theorem Zcg {P:Program} {o:Oper} {σ:Nat→AV} {T e:TypeId} {m kx:Operand} {d:Nat} {kvs:List (List AV)} {k:Int} {z u:Value} {f:Bool} (ho:o.op = .lookup T m kx Xb) (hz:KS P T=Xa z) (hk:JD P T=Xe) (hlt:e < 2097152) (hm:Zt P σ m = .mref d 0) (hd:σ d = .own Xb e [[.slice Xc 2 kvs]]) (h0:P.cellsOf e=0) (he:e=T+1048576)
  (hkx:Zt P σ kx = .val (.int .i64 k)) (hrow:ZbJ [[.slice Xc 2 kvs]] k [.val z] = [[.val u,.val (.bool f)]]):JO P o σ (.tuple [.val u,.val (.bool f)]) [] [d]:=by
 intro c hc σ' tm w lim X hid hag hsim next Q hn
 subst hc
 have hg:∀ y∈o.op.operands,Zt c.P σ' y=Zt c.P σ y:=fun y hy=>ZJ fun t ht=>hid t (by simp [Zw hy ht])
 rw [ho] at hg
 have hv:=Yj rfl hsim hm (hg m (by simp [Op.operands]))
 have hkv:=Jh rfl hsim hkx (hg kx (by simp [Op.operands]))
 have hd':σ' d = .own Xb e [[.slice Xc 2 kvs]]:=by rw [hag d (by simp),hd]
 have hmv:=Zrn hsim hd' h0 (by rw [he,X5];exact hz) (by rw [he,X5];exact hk) hlt hv
 obtain ⟨u',f',g1,g2,g3⟩:=Zgm hsim hd' h0 he hz hk hlt k Xb
 rw [hrow] at g1
 simp only [List.cons.injEq,AV.val.injEq,Value.bool.injEq,and_true] at g1
 obtain ⟨rfl,rfl⟩:=g1
 rw [if_pos rfl] at g3
 refine Zs (v:=.tuple #[u,.bool f]) (w':=w) ?_ (hn _ w ?_)
 ·simp only [execOp,ho,hmv,hkv,g3,Sem.run_bind,Result.andThen_ok,Sem.run_pure]
 ·have hrel:ZZ c.P w lim (Ke X 0 Jx) (upd σ' 0 .dead) 0 (.tuple [.val u,.val (.bool f)]) (.tuple #[u,.bool f]):=by
   refine ⟨[u,.bool f],rfl,rfl,fun i c u' hc hu=>?_⟩
   match i with
   | 0 => simp at hc hu; subst hc; subst hu; exact .val (KA g2)
   | 1 => simp at hc hu; subst hc; subst hu; exact .val rfl
   | i + 2 => simp at hc
  cases hdst:o.dst with
  | none => exact ⟨lim, X, hsim⟩
  | some d2 =>
   intro hd2 hmp
   refine ⟨lim,_,hsim.putRow Jx (ZU.refl w lim (fun _=>False)) (fun _ hs=>hs.elim) hd2 (tm':=tm.setIfInBounds d2 (.tuple #[u,.bool f])) (by simp) (fun i hi=>ZL tm d2 i _ hi) (.inl (ZH hmp).1) (fun i q hi hr=>(hsim.noRefs (ZH hmp).none i q hi hr).elim) ?_
    (fun k b hk=>by simp [Jx] at hk) (fun k k' b hk=>by simp [Jx] at hk) rfl (fun e xs he=>by cases he) (fun k e xs b he _ hb=>by simp [Jx] at hb)⟩
   rw [JF tm d2 _ (by rw [hsim.size];exact hd2)]
   refine ⟨[u,.bool f],rfl,rfl,fun i c u' hc hu=>?_⟩
   match i with
   | 0 => simp at hc hu; subst hc; subst hu; exact .val (KA g2)
   | 1 => simp at hc hu; subst hc; subst hu; exact .val rfl
   | i + 2 => simp at hc
theorem Sim.mapFillV {c:Ctx} {σ:Nat→AV} {tm:Array Value} {w:World} {lim:Nat→Nat} {X:Nat→Nat→Option Nat} (h:Sim c σ tm w lim X) {d:Nat} {e T:TypeId} {kvs:List (List AV)} {z:Value} (k:Int) (hd:σ d = .own Xb e [[.slice Xc 2 kvs]]) (h0:c.P.cellsOf e=0) (he:e=T+1048576) (hz:KS c.P T=Xa z) (hk:JD c.P T=Xe) (hlt:e < 2097152) {u:Value} (hu:Yn u z=Xb) :
  ∃ w' X',(Instr.mapUpdate T (tm.getD d undef) (.int .i64 k) u).run c.P w = .ok () w'∧Sim c (upd σ d (.own Xb e (ZlC [[.slice Xc 2 kvs]] k [.val u]))) tm w' lim X':=by
 have hz':KS c.P (e-1048576)=Xa z:=by rw [he,X5];exact hz
 have hk':JD c.P (e-1048576)=Xe:=by rw [he,X5];exact hk
 obtain ⟨b,es,clock,hX,hvd,hb,hlb,hl,hs,hr⟩:=Zhy h hd h0 hz' hk' hlt
 obtain ⟨kt,vt,i,hT,hkt,hi,hzz,hsc⟩:=Zed hz
 have hdn:d < c.nt:=JJ h (by rw [hd];exact fun h=>by cases h) (by rw [hd];rfl)
 obtain ⟨hkeys,hfind⟩:=ZcX hl hs (fun i en row h1 h2=>by obtain ⟨k,u,g1,g2,_⟩:=hr i en row h1 h2;exact ⟨k,_,g1,g2⟩) k
 have hm:Zk c.P e=Xb:=decide_eq_true (by rw [he];exact Nat.le_add_left _ _)
 have fill:∀ (es':Array MapEntry) (clock':Nat) (kvs':List (List AV)),es'.size=kvs'.length→Stamped es' clock'→
   (∀ (i:Nat) (en:MapEntry) (row:List AV),es'[i]? = Xa en→kvs'[i]? = Xa row→∃ (k:Int) (u:Value),row = [.val (.int .i64 k),.val u]∧en.key = .int .i64 k∧en.val=u∧Yn u z=Xb)→
   Sim c (upd σ d (.own Xb e [[.slice Xc 2 kvs']])) tm (Kd w b (.map es' clock')) lim (Ke X d (X d)):=by
  intro es' clock' kvs' g1 g2 g3
  have hstep:=Zbk (es':=es') (clock':=clock') hb hlb
  refine h.putRow (S:=fun b'=>b'=b) (X d) hstep (fun b' hb'=>⟨0,by rw [hb'];exact hX⟩) hdn rfl (fun _ _=>rfl) (.inl fun cs hcs=>by rw [hd] at hcs;cases hcs) (fun i q hi hq=>⟨?_,rfl,fun b' hb'=>?_⟩) ?_
   (fun q b' hq=>⟨XO (h.ours d q b' hq).1 hstep.size,(h.ours d q b' hq).2,fun i j hij hx=>hij (h.dist i j d q b' hx hq).1⟩) (fun q q' b' hq hq'=>(h.dist d q d q' b' hq hq').2) rfl (fun e1 xs1 he1=>?_) (fun k1 e1 xs1 b1 m1 m2 _=>?_)
  ·intro e1 xs1 hoa
   rw [hd] at hoa
   cases q with
   | zero => simp only [Zr, Xf, Xo] at hoa; obtain ⟨rfl, rfl⟩ := hoa; exact ⟨_, rfl, rfl⟩
   | succ q => cases hoa
  ·by_cases hbb:b'=b
   ·subst hbb
    refine ⟨fun arr t m=>?_,fun es1 clock1 _=>⟨es',clock',YW hb⟩⟩
    rw [hb] at m;cases m
   ·exact .of (J2 hbb)
  ·show ZY c.P _ lim Xb e _ _ (Ke X d (X d) d 0)
   rw [Zo]
   exact .inr (.inr ⟨rfl,.inr (.inr ⟨hm,b,es',clock',kvs',z,⟨hz',hk',hlt⟩,hX,hvd,YW hb,hlb,rfl,g1,g2,g3⟩)⟩)
  ·injection he1 with _ h1 h2
   subst h1
   exact .mv (.inr (.inr (.inr hk')))
  ·cases k1 with
   | zero =>
    simp only [Z5,Xf,Xo] at m1
    rw [← m1.1,YI hlt] at m2
    cases m2
   | succ k1 => simp [Z5] at m1
 rcases hfind with ⟨h1,h2,h3⟩ | ⟨j,en,row,h1,h2,h3,h4,h5,h6,h7⟩
 ·refine ⟨Kd w b (.map (es.push ⟨.int .i64 k,u,clock⟩) (clock+1)),Ke X d (X d),?_,?_⟩
  rotate_left
  ·have:=fill (es.push ⟨.int .i64 k,u,clock⟩) (clock+1) (kvs++[[.val (.int .i64 k),.val u]]) (by simp [hl]) (stamped_push hs h2) (fun i en row m1 m2=>by
    by_cases hij:i=es.size
    ·subst hij
     rw [Array.getElem?_push,if_pos rfl] at m1
     rw [XB (by omega)] at m2
     simp [hl] at m2
     cases m1
     exact ⟨k,u,m2.symm,rfl,rfl,hu⟩
    ·have hlt:i < es.size:=by
      have:=(Ua.1 m1).1
      simp at this
      omega
     rw [Array.getElem?_push,if_neg (by omega)] at m1
     rw [XE (by omega)] at m2
     exact hr i en row m1 m2)
   simp only [ZlC,JY,List.headD_cons,Zk0 h3]
   exact this
  ·rw [hvd]
   simp [Instr.mapUpdate,run_underlying hT,MapKept.run_getObj_map hb,MapKept.run_checkKey hkt (Yf k),MapKept.run_findKey hkt h1,MapKept.run_setObj_map _ hb,Result.andThen,Kd]
 ·have hj:es[j]? = Xa en:=h2
  have hjl:j < es.size:=(Ua.1 h2).1
  have hkeyf:∀ e',es[j]? = Xa e'→({ e' with key:=.int .i64 k,val:=u } : MapEntry).key=e'.key:=fun e' he'=>by rw [hj] at he';cases he';exact h4.symm
  refine ⟨Kd w b (.map (es.modify j fun e'=>{ e' with key:=.int .i64 k,val:=u }) clock),Ke X d (X d),?_,?_⟩
  rotate_left
  ·have hlen:=Zie (cl:=.val u) h3 h5
   have:=fill (es.modify j fun e'=>{ e' with key:=.int .i64 k,val:=u }) clock (KZ kvs k (.val u)) (by rw [Array.size_modify,hl,hlen]) (stamped_modify hs _ _ (fun _ _=>rfl) (fun e' _ he'=>hkeyf e' he')) (fun i en' row' m1 m2=>by
    have m3:=Ze4 (cl:=.val u) h3 h5 h7 i row' m2
    by_cases hij:i=j
    ·subst hij
     rw [if_pos rfl] at m3
     rw [Tl,if_pos rfl,hj] at m1
     simp only [Xv,Xf] at m1
     subst m1
     exact ⟨k,u,m3,rfl,rfl,hu⟩
    ·rw [if_neg hij] at m3
     rw [Tl,if_neg (by omega)] at m1
     exact hr i en' row' m1 m3.1)
   simp only [ZlC,JY,List.headD_cons]
   exact this
  ·rw [hvd]
   simp [Instr.mapUpdate,run_underlying hT,MapKept.run_getObj_map hb,MapKept.run_checkKey hkt (Yf k),MapKept.run_findKey hkt h1,hj,h4,MapKept.run_keyThatStays (Yf k),MapKept.run_setObj_map _ hb,Result.andThen,Kd]
theorem Zgh {P:Program} {o:Oper} {σ:Nat→AV} {T e:TypeId} {m kx vx:Operand} {d:Nat} {kvs:List (List AV)} {k:Int} {z u:Value} (ho:o.op = .insert T m kx vx∨o.op = .mapUpdate T m kx vx) (hz:KS P T=Xa z) (hk:JD P T=Xe) (hlt:e < 2097152) (hm:Zt P σ m = .mref d 0) (hd:σ d = .own Xb e [[.slice Xc 2 kvs]]) (h0:P.cellsOf e=0) (he:e=T+1048576)
  (hkx:Zt P σ kx = .val (.int .i64 k)) (hvx:Zt P σ vx = .val u) (hu:Yn u z=Xb):JO P o σ .dead [(d,.own Xb e (ZlC [[.slice Xc 2 kvs]] k [.val u]))] []:=by
 intro c hc σ' tm w lim X hid hag hsim next Q hn
 subst hc
 have hg:∀ y∈o.op.operands,Zt c.P σ' y=Zt c.P σ y:=fun y hy=>ZJ fun t ht=>hid t (by simp [Zw hy ht])
 have hgm:=hg m (by rcases ho with ho | ho<;>rw [ho]<;>simp [Op.operands])
 have hgk:=hg kx (by rcases ho with ho | ho<;>rw [ho]<;>simp [Op.operands])
 have hgv:=hg vx (by rcases ho with ho | ho<;>rw [ho]<;>simp [Op.operands])
 have hv:=Yj rfl hsim hm hgm
 have hkv:=Jh rfl hsim hkx hgk
 have hvv:=Jh rfl hsim hvx hgv
 have hd':σ' d = .own Xb e [[.slice Xc 2 kvs]]:=by rw [hag d (by simp),hd]
 have hmv:=Zrn hsim hd' h0 (by rw [he,X5];exact hz) (by rw [he,X5];exact hk) hlt hv
 obtain ⟨w',X',r1,r2⟩:=hsim.mapFillV k hd' h0 he hz hk hlt hu
 refine JU (w':=w') ?_ (hn undef w' (ZE r2 rfl (k:=0) trivial))
 rcases ho with ho | ho<;>simp only [execOp,ho,hmv,hkv,hvv,r1,Sem.run_bind,Result.andThen_ok,Sem.run_pure]
def ZsH (A:Nat→List V→Prop) (n:Nat) (B:List V→Prop):Nat→List V→Prop:=fun i vs=>if i=n then B vs else A i vs
def STree.wp (P:Program) (R:AV→List AV→Prop):STree→(Nat→List V→Prop)→(Nat→V)→Prop
 | .stuck _, _, _ => False
 | .branch b t e, A, ρ => (b.den ρ = Xb → t.wp P R A ρ) ∧ (b.den ρ = Xc → e.wp P R A ρ)
 | .req p t, A, ρ => p.den ρ ∧ t.wp P R A ρ
 | .elem l i sh n t, A, ρ => ∃ vs, 0 ≤ i.den ρ ∧ (l.den ρ)[(i.den ρ).toNat]? = Xa ((ZF sh n).map (SC.den (bind ρ n vs))) ∧ t.wp P R A (bind ρ n vs)
 | .nilq l n t, A, ρ => ∀ b : Bool, (b = Xb → l.den ρ = []) → t.wp P R A (bind ρ n [.b b])
 | .call f args res outs n _ t, A, ρ => ∃ vs, J0 P f (args.map (SV.den ρ)) (res.den (bind ρ n vs)) (outs.map (SV.den (bind ρ n vs))) ∧ t.wp P R A (bind ρ n vs)
 | .loop lv init n t, A, ρ => ∃ (I : List V → Prop) (m : List V → Nat), I (init.map (VE.den ρ)) ∧
   ∀ vs,vs.length=init.length→I vs→t.wp P R (ZsH A lv fun vs'=>I vs'∧m vs' < m vs) (bind Zhe n vs)
 | .again lv vals, A, ρ => A lv (vals.map (VE.den ρ))
 | .ret res outs, _, ρ => R (res.den ρ) (outs.map (SV.den ρ))
def Y4:List Sh→List Value→Prop
 | [], [] => True
 | .int k :: L, .int k' _ :: us => k = k' ∧ Y4 L us
 | .bool :: L, .bool _ :: us => Y4 L us
 | _, _ => False
def eqV:List Value→List Value→Bool
 | .int _ a :: us, .int _ b :: vs => (a == b) && eqV us vs
 | .bool a :: us, .bool b :: vs => (a == b) && eqV us vs
 | _, _ => Xb
def Wm (P:Program) (plain:List TypeId):Prop:=
 ∀ T∈plain,P.eqGuardType P.depth T=Xc∧∀ L,YL P 8 T=Xa L→∀ (us vs:List Value),Y4 L us→Y4 L vs→∀ w,
  (Op.equalIn 10000 T (.agg us.toArray) (.agg vs.toArray)).run P w = .ok (eqV us vs) w
def EnvSound (P:Program) (E:Env):Prop:=Wm P E.plain∧Zas P E.ks∧W4 P E.srt
theorem Zhs {P:Program} {R:AV→List AV→Prop} {A:Nat→List V→Prop} {ρ:Nat→V} {b:BE} {t e:STree} (h:(ZfA b t e).wp P R A ρ) :
  (b.den ρ=Xb→t.wp P R A ρ)∧(b.den ρ=Xc→e.wp P R A ρ):=by
 unfold ZfA at h
 split at h
 ·exact ⟨fun _=>h,fun hb=>by simp [BE.den] at hb⟩
 ·exact ⟨fun hb=>by simp [BE.den] at hb,fun _=>h⟩
 ·exact h
theorem Znf (b:BE) (ρ:Nat→V):(Znj b).den ρ = !b.den ρ:=by unfold Znj;split<;>rfl
theorem Zom {b:BE} {n:Nat} (h:b.bd n):(Znj b).bd n:=by
 unfold Znj
 split
 ·trivial
 ·exact h
theorem Zhz {v:Value} (ρ:Nat→V):(ofC v).map (SC.den ρ)=ZrO v:=by
 cases v with
 | slice a l c => cases a <;> cases l <;> cases c <;> rfl
 | _ => rfl
theorem KL (ρ:Nat→V):∀ (vs:List Value),(Zf3 vs).map (List.map (SC.den ρ))=Za8 vs
 | [] => rfl
 | v :: vs => by
  have h1:=Zhz (v:=v) ρ
  have h2:=KL ρ vs
  simp only [Zf3,Za8]
  cases hc:ofC v<;>cases hcs:Zf3 vs<;>rw [hc] at h1<;>rw [hcs] at h2<;>simp at h1 h2<;>rw [← h1]<;>try rw [← h2]
  ·simp
  ·simp
  ·simp
  ·simp
theorem Zp1 {v:Value} {c:SC} {n:Nat} (h:ofC v=Xa c):c.bd n:=by
 unfold ofC at h
 split at h<;>simp at h<;>subst h<;>trivial
theorem V9 {n:Nat} : ∀ {vs:List Value} {cs:List SC},Zf3 vs=Xa cs→∀ c∈cs,c.bd n
 | [], cs, h => by simp [Zf3] at h; subst h; simp
 | v :: vs, cs, h => by
  simp only [Zf3] at h
  split at h
  ·rename_i c cs' hc hcs
   simp at h
   subst h
   intro x hx
   rcases Xu.1 hx with rfl | hx
   ·exact Zp1 hc
   ·exact V9 hcs x hx
  ·simp at h
theorem Zq5 (v:Value) (ρ:Nat→V):(ofV v).den ρ=Zq0 v:=by
 cases v with
 | agg cs =>
  have:=KL ρ cs.toList
  simp only [ofV,Zq0]
  rw [← this]
  cases Zf3 cs.toList<;>rfl
 | slice a l c =>
  have:=Zhz (v:=.slice a l c) ρ
  simp only [ofV,Zq0]
  rw [← this]
  cases ofC (.slice a l c)<;>rfl
 | _ => rfl
theorem Zsa (v:Value) (n:Nat):(ofV v).bd n:=by
 unfold ofV
 split
 ·split
  ·rename_i l hl;exact V9 hl
  ·trivial
 ·split
  ·rename_i c hc;exact Zp1 (v:=v) hc
  ·trivial
theorem Ym (P:Program) (g:Nat→SV) (ρ:Nat→V) (x:Operand):(Ju P g x).den ρ=Zt P (fun d=>(g d).den ρ) x:=by
 cases x with
 | tmp t =>
  simp only [Ju,Zt]
  cases g t with
  | c x => cases x <;> rfl
  | own x e xs => cases x <;> rfl
  | _ => rfl
 | const v => exact Zq5 v ρ
 | global g => rfl
 | func f => rfl
theorem ZM {P:Program} {g:Nat→SV} {n:Nat} (hg:∀ d,(g d).bd n) (x:Operand):(Ju P g x).bd n:=by
 cases x with
 | tmp t =>
  have:=hg t
  simp only [Ju]
  cases hs:g t with
  | own x e xs => rw [hs] at this; cases x <;> first | exact this | trivial
  | _ => rw [hs] at this; first | exact this | trivial
 | const v => exact Zsa v n
 | global g => trivial
 | func f => trivial
theorem Zi {P:Program} {g:Nat→SV} {x:Operand} {y:SV} (ρ:Nat→V) (h:Ju P g x=y):Zt P (fun d=>(g d).den ρ) x=y.den ρ:=by rw [← Ym,h]
def YN (tx:Odr) (P:Program) (R:AV→List AV→Prop) (A:Nat→List V→Prop) (ρ:Nat→V) (g:Nat→SV) (o:Oper) (n:Nat) (k:K):Prop:=
 ∃ ρ' n' x us fp,n≤n'∧(∀ m,m < n→ρ' m=ρ m)∧x.bd n'∧(∀ u∈us,u.2.bd n')∧(k x us fp n').wp P R A ρ'∧
  Kc tx P o (fun d=>(g d).den ρ) (x.den ρ') (us.map fun u=>(u.1,u.2.den ρ')) fp
section
variable {tx:Odr} {P:Program} {R:AV→List AV→Prop} {A:Nat→List V→Prop} {ρ:Nat→V} {g:Nat→SV} {o:Oper} {n:Nat} {k:K}
theorem Wy {x:SV} {us:Ups} {fp:List Nat} (hk:(k x us fp n).wp P R A ρ) (hx:x.bd n) (hus:∀ u∈us,u.2.bd n)
  (hex:JO P o (fun d=>(g d).den ρ) (x.den ρ) (us.map fun u=>(u.1,u.2.den ρ)) fp):YN tx P R A ρ g o n k:=
 ⟨ρ,n,x,us,fp,XA _,fun _ _=>rfl,hx,hus,hk,hex.t⟩
theorem Wv {x:SV} {us:Ups} {fp:List Nat} (hk:(k x us fp n).wp P R A ρ) (hx:x.bd n) (hus:∀ u∈us,u.2.bd n)
  (hex:Kc tx P o (fun d=>(g d).den ρ) (x.den ρ) (us.map fun u=>(u.1,u.2.den ρ)) fp):YN tx P R A ρ g o n k:=
 ⟨ρ,n,x,us,fp,XA _,fun _ _=>rfl,hx,hus,hk,hex⟩
theorem Z7 {x:SV} {fp:List Nat} (hk:(k x [] fp n).wp P R A ρ) (hx:x.bd n) (hex:JO P o (fun d=>(g d).den ρ) (x.den ρ) [] fp):YN tx P R A ρ g o n k:=
 Wy hk hx (by simp) hex
def Zfv (ρ:Nat→V):SC→Value
 | .int k e => .int k (e.den ρ)
 | .bool b => .bool (b.den ρ)
 | .str s => .string (s.den ρ)
 | .slice _ _ _ => .slice Xe 0 0
theorem Zct (ρ:Nat→V):∀ (L:List Sh) (cs:List SC),WM L cs=Xb→Y4 L (cs.map (Zfv ρ))∧cs.map (SC.den ρ)=(cs.map (Zfv ρ)).map AV.val∧∀ u∈cs.map (Zfv ρ),Zdu u=Xb
 | [], [], _ => ⟨trivial, rfl, by simp⟩
 | [], _ :: _, h => by simp [WM] at h
 | _ :: _, [], h => by simp [WM] at h
 | s :: L, c :: cs, h => by
  simp only [WM,Xx] at h
  obtain ⟨h1,h2,h3⟩:=Zct ρ L cs h.2
  have h0:=h.1
  cases s<;>cases c<;>simp [ZjD] at h0
  ·refine ⟨⟨h0,h1⟩,by simp only [Xk,h2];rfl,?_⟩
   intro u hu
   rw [Xk] at hu
   rcases Xu.1 hu with rfl | hu
   ·rfl
   ·exact h3 u hu
  ·refine ⟨h1,by simp only [Xk,h2];rfl,?_⟩
   intro u hu
   rw [Xk] at hu
   rcases Xu.1 hu with rfl | hu
   ·rfl
   ·exact h3 u hu
theorem Zcu (ρ:Nat→V):∀ (xs ys:List SC) (e:BE),Zbz xs ys=Xa e→e.den ρ=eqV (xs.map (Zfv ρ)) (ys.map (Zfv ρ))
 | [], [], e, h => by simp [Zbz] at h; subst h; rfl
 | [], _ :: _, e, h => by simp [Zbz] at h
 | _ :: _, [], e, h => by simp [Zbz] at h
 | a :: aZ, b :: bs, e, h => by
  simp only [Zbz] at h
  split at h
  ·rename_i x y hx hy
   simp at h
   subst h
   have ih:=Zcu ρ aZ bs y hy
   cases a<;>cases b<;>simp [ZmS] at hx
   ·obtain ⟨_,rfl⟩:=hx
    simp only [BE.den,Xk,Zfv,eqV,ih,cop]
   ·subst hx
    simp only [BE.den,Xk,Zfv,eqV,ih]
  ·simp at h
theorem ZiR {n:Nat} : ∀ (xs ys:List SC) (e:BE),(∀ c∈xs,c.bd n)→(∀ c∈ys,c.bd n)→Zbz xs ys=Xa e→e.bd n
 | [], [], e, _, _, h => by simp [Zbz] at h; subst h; trivial
 | [], _ :: _, e, _, _, h => by simp [Zbz] at h
 | _ :: _, [], e, _, _, h => by simp [Zbz] at h
 | a :: aZ, b :: bs, e, hx, hy, h => by
  simp only [Zbz] at h
  split at h
  ·rename_i x y hx' hy'
   simp at h
   subst h
   have ih:=ZiR aZ bs y (fun c hc=>hx c (by simp [hc])) (fun c hc=>hy c (by simp [hc])) hy'
   have ha:=hx a (by simp)
   have hb:=hy b (by simp)
   cases a<;>cases b<;>simp [ZmS] at hx'
   ·obtain ⟨_,rfl⟩:=hx'
    exact ⟨⟨ha,hb⟩,ih⟩
   ·subst hx'
    exact ⟨⟨ha,hb⟩,ih⟩
  ·simp at h
theorem ZjL {w:World} {lim:Nat→Nat} {us:List Value} {v:Value} (h:Rep w lim (.agg (us.map AV.val)) v):v = .agg us.toArray:=by
 have key:∀ y,Rep w lim y v→y = .agg (us.map AV.val)→v = .agg us.toArray:=by
  intro y hy he
  cases hy with
  | @agg cs vs hl hc hr =>
   injection he with he
   subst he
   have hlen:us.length=vs.length:=by simpa using hl
   have:vs=us:=by
    apply List.ext_getElem hlen.symm
    intro i h1 h2
    exact YV (hr i (.val us[i]) vs[i] (by simp [h2]) (by simp [h1]))
   rw [this]
  | val _ => cases he
  | sliceN => cases he
  | sliceE _ => cases he
  | sliceC _ _ _ _ _ _ _ _ => cases he
  | nest => cases he
 exact key _ h rfl
theorem Zdj {T T':TypeId} {x y:Operand} {op:BinOp} {us vs:List Value} {σ:Nat→AV} {L:List Sh} {plain:List TypeId} (hps:Wm P plain) (hT:T∈plain) (hL:YL P 8 T=Xa L) (ho:o.op = .binOp op T x y T')
  (hop:op = .eql∨op = .neq) (hx:Zt P σ x = .agg (us.map AV.val)) (hy:Zt P σ y = .agg (vs.map AV.val)) (hu:Y4 L us) (hv:Y4 L vs) :
  JO P o σ (.val (.bool (if op = .eql then eqV us vs else !eqV us vs))) [] []:=by
 refine ZK [] rfl fun c hc σ' tm w lim X hg hfp hsim=>⟨.bool (if op = .eql then eqV us vs else !eqV us vs),?_,.val rfl⟩
 rw [ho] at hg
 have h1:=ZjL (Yj hc hsim hx (hg x (by simp [Op.operands])))
 have h2:=ZjL (Yj hc hsim hy (hg y (by simp [Op.operands])))
 obtain ⟨p1,p2⟩:=hps T hT
 have p3:=p2 L hL us vs hu hv w
 rcases hop with rfl | rfl
 ·simp only [execOp,ho,h1,h2,Sem.run_bind,run_eqGuard_agg w .eql T x y us.toArray vs.toArray p1,Result.andThen_ok,run_eql_struct,p3]
  simp
 ·simp only [execOp,ho,h1,h2,Sem.run_bind,run_eqGuard_agg w .neq T x y us.toArray vs.toArray p1,Result.andThen_ok,run_neq_struct,p3]
  simp
theorem Znx {plain:List TypeId} {op:BinOp} {T T':TypeId} {xo yo:Operand} (hps:Wm P plain) (hg:∀ d,(g d).bd n) (ho:o.op = .binOp op T xo yo T')
  (h:(bin P plain op T (Ju P g xo) (Ju P g yo) fun v=>k v [] [] n).wp P R A ρ):YN tx P R A ρ g o n k:=by
 have bx:=ZM (P:=P) hg xo
 have bY:=ZM (P:=P) hg yo
 generalize hx:Ju P g xo=x at h bx
 generalize hy:Ju P g yo=y at h bY
 have sx:=Zi ρ hx
 have sy:=Zi ρ hy
 unfold bin at h
 split at h
 ·rename_i kx a ky b
  have arith:∀ (i:IOp),kx=ky→ZqT op=Xa i→(i = .quo∨i = .rem→b.den ρ≠0)→(k (.c (.int kx (.bin i kx a b))) [] [] n).wp P R A ρ→YN tx P R A ρ g o n k:=by
   intro i hk hi hz hk'
   subst hk
   exact Z7 hk' ⟨bx,bY⟩ (Zov ho hi sx sy hz)
  have comp:∀ (i:COp),kx=ky→Zqq op=Xa i→(k (.c (.bool (.cmp i a b))) [] [] n).wp P R A ρ→YN tx P R A ρ g o n k:=by
   intro i hk hi hk'
   subst hk
   exact Z7 hk' ⟨bx,bY⟩ (ZoU ho hi sx sy)
  split at h
  ·exact Z7 h.2 ⟨bx,bY⟩ (Zet ho (.inl ⟨rfl,rfl⟩) sx sy h.1)
  ·exact Z7 h.2 ⟨bx,bY⟩ (Zet ho (.inr ⟨rfl,rfl⟩) sx sy h.1)
  ·split at h
   ·rename_i hk
    split at h<;>first
     | exact h.elim
     | exact arith _ hk rfl (by simp) h
     | exact arith _ hk rfl (fun _ => h.1) h.2
     | exact comp _ hk rfl h
   ·exact h.elim
 ·rename_i a b
  split at h
  ·exact Z7 h ⟨bx,bY⟩ (Zje (op:=.eql) ho (.inl rfl) sx sy)
  ·exact Z7 h ⟨bx,bY⟩ (Zje (op:=.neq) ho (.inr rfl) sx sy)
  ·exact h.elim
 ·rename_i a b
  split at h
  ·rename_i hT
   split at h
   ·exact Z7 h ⟨bx,bY⟩ (Zhh (op:=.eql) ho hT (.inl rfl) sx sy)
   ·exact Z7 h ⟨bx,bY⟩ (Zhh (op:=.neq) ho hT (.inr rfl) sx sy)
   ·exact h.elim
  ·exact h.elim
 ·rename_i xs ys
  split at h
  ·rename_i e hpl he
   simp only [Zld,Xx,TT] at hpl
   obtain ⟨hT,hk⟩:=hpl
   cases hL:YL P 8 T with
   | none => simp [hL] at hk
   | some L =>
    rw [hL] at hk
    simp only [Xx] at hk
    obtain ⟨u1,u2,u3⟩:=Zct ρ L xs hk.1
    obtain ⟨v1,v2,v3⟩:=Zct ρ L ys hk.2
    have hbd:=ZiR xs ys e bx bY he
    have sx':Zt P (fun d=>(g d).den ρ) xo = .agg ((xs.map (Zfv ρ)).map AV.val):=by rw [sx,← u2];rfl
    have sy':Zt P (fun d=>(g d).den ρ) yo = .agg ((ys.map (Zfv ρ)).map AV.val):=by rw [sy,← v2];rfl
    split at h
    ·refine Z7 h hbd ?_
     have:=Zdj (o:=o) (op:=.eql) hps hT hL ho (.inl rfl) sx' sy' u1 v1
     rw [if_pos rfl,← Zcu ρ xs ys e he] at this
     exact this
    ·refine Z7 h hbd ?_
     have:=Zdj (o:=o) (op:=.neq) hps hT hL ho (.inr rfl) sx' sy' u1 v1
     rw [if_neg (by simp),← Zcu ρ xs ys e he] at this
     exact this
    ·exact h.elim
  ·exact h.elim
 ·exact h.elim
end
theorem ZjX (ρ:Nat→V) (c:SC):(c.den ρ).isCell=Xb:=by cases c<;>rfl
theorem VU {x:SV} {cs:List SC} (ρ:Nat→V) (h:x.cells=Xa cs):(x.den ρ).cells? = Xa (cs.map (SC.den ρ)):=by
 cases x with
 | c y =>
  simp only [SV.cells,Xf] at h
  subst h
  cases y<;>rfl
 | agg ds =>
  simp only [SV.cells,Xf] at h
  subst h
  rfl
 | _ => simp [SV.cells] at h
theorem ZaI {x:SV} {cs:List SC} {n:Nat} (h:x.cells=Xa cs) (hx:x.bd n):∀ c∈cs,c.bd n:=by
 cases x with
 | c y =>
  simp only [SV.cells,Xf] at h
  subst h
  intro c hc
  simp at hc
  subst hc
  exact hx
 | agg ds =>
  simp only [SV.cells,Xf] at h
  subst h
  exact hx
 | _ => simp [SV.cells] at h
theorem ZcN (ρ:Nat→V) (place:Nat→Option (Nat×Nat)):∀ (parts:List (Nat×SV)) (cells out:List SC),Zfg place cells parts=Xa out→
  Zdm place (cells.map (SC.den ρ)) (parts.map fun p=>(p.1,p.2.den ρ))=Xa (out.map (SC.den ρ))
 | [], cells, out, h => by simp only [Zfg, Xf] at h; subst h; rfl
 | (i, v) :: parts, cells, out, h => by
  simp only [Zfg] at h
  split at h
  ·rename_i off size vc hp hv
   split at h
   ·rename_i hc
    have ih:=ZcN ρ place parts _ out h
    simp only [XJ,Ui,Ut] at ih
    simp only [Xk,Zdm,hp,VU ρ hv]
    rw [if_pos (by simpa using hc)]
    exact ih
   ·cases h
  ·cases h
theorem Zff {n:Nat} (place:Nat→Option (Nat×Nat)):∀ (parts:List (Nat×SV)) (cells out:List SC),(∀ c∈cells,c.bd n)→(∀ p∈parts,p.2.bd n)→Zfg place cells parts=Xa out→∀ c∈out,c.bd n
 | [], cells, out, hc, _, h => by simp only [Zfg, Xf] at h; subst h; exact hc
 | (i, v) :: parts, cells, out, hc, hp, h => by
  simp only [Zfg] at h
  split at h
  ·rename_i off size vc hpl hv
   split at h
   ·refine Zff place parts _ out (fun c hcc=>?_) (fun p hp'=>hp p (by simp [hp'])) h
    rcases Xs.1 hcc with h1 | h1
    ·rcases Xs.1 h1 with h1 | h1
     ·exact hc c (XP h1)
     ·exact ZaI hv (hp (i,v) (by simp)) c h1
    ·exact hc c (XS h1)
   ·cases h
  ·cases h
theorem Vf (ρ:Nat→V):∀ (cs:List SC),(Zhq cs).den ρ=cs.map (SC.den ρ)
 | [] => rfl
 | c :: cs => by simp only [Zhq, CE.den, Vf ρ cs, Xk]
theorem WR {n:Nat} : ∀ (cs:List SC),(∀ c∈cs,c.bd n)→(Zhq cs).bd n
 | [], _ => trivial
 | c :: cs, h => ⟨h c (by simp), WR cs fun x hx => h x (by simp [hx])⟩
theorem Zl1 (ρ:Nat→V) (size:Nat) (cs:List SC):∀ (n:Nat),(lOf size cs n).den ρ=W1 size (cs.map (SC.den ρ)) n
 | 0 => rfl
 | n + 1 => by
  simp only [lOf,LE.den,Zl1 ρ size cs n,Vf,W1,List.range_succ,XJ,Xk,XL,Ui,Ut]
theorem ZpK {m:Nat} (size:Nat) (cs:List SC) (h:∀ c∈cs,c.bd m):∀ (n:Nat),(lOf size cs n).bd m
 | 0 => trivial
 | n + 1 => ⟨ZpK size cs h n, WR _ fun c hc => h c (XS (XP hc))⟩
theorem Zec (P:Program) (ρ:Nat→V) (b:BC):(Zek P b).den ρ=YM P (b.den ρ):=by
 cases b with
 | c x => cases x <;> rfl
 | own x e l => rfl
 | gone => rfl
theorem Zcm {cs:List BC} (h:V8 cs=Xb) (ρ:Nat→V):Zbx (cs.map (BC.den ρ)):=by
 intro c hc e xs he
 obtain ⟨b,hb,rfl⟩:=Xm.1 hc
 unfold V8 at h
 rw [XC] at h
 have:=h b hb
 cases b with
 | c x => cases x <;> cases he
 | own x e l =>
  cases x with
  | false => cases he
  | true => cases this
 | gone => cases he
theorem V6 {cs:List BC} (h:VD cs=Xb) (ρ:Nat→V):Whole (cs.map (BC.den ρ)):=by
 intro c hc he
 obtain ⟨b,hb,rfl⟩:=Xm.1 hc
 unfold VD at h
 rw [XC] at h
 have:=h b hb
 cases b with
 | c x => cases x <;> cases he
 | own x e l => cases he
 | gone => cases this
theorem ZmY {P:Program} {n:Nat} {b:BC} (h:b.bd n):(Zek P b).bd n:=by
 cases b<;>exact h
theorem ZoV {P:Program} {T:TypeId} {cs:List BC} (ρ:Nat→V) (n:Nat) (h:ZqZ P T=Xa cs) :
  ∃ i z,P.info? T=Xa i∧i.zero=Xa z∧ZpV (cs.map (BC.den ρ)) z.cells.toList∧∀ c∈cs,c.bd n:=by
 unfold ZqZ at h
 split at h
 ·rename_i i hi
  split at h
  ·rename_i z hz
   split at h
   ·rename_i sc hsc
    split at h
    ·rename_i hlen
     simp only [Xf] at h
     subst h
     have hl:sc.length=z.cells.toList.length:=by
      have h1:=KL ρ z.cells.toList
      rw [hsc] at h1
      have h2:=(Zac (w:=default) (lim:=fun _=>0) h1.symm).1
      simpa using h2
     refine ⟨i,z,hi,hz,⟨by simp [hlen,hl],fun j x u hx hu=>?_⟩,fun c hc=>?_⟩
     ·rw [Xl,List.getElem?_zipWith] at hx
      cases h1:(Yd P 8 T)[j]? with
      | none => simp [h1] at hx
      | some e =>
       cases h2:sc[j]? with
       | none => simp [h1, h2] at hx
       | some c =>
        simp only [h1,h2,Xv,Xf] at hx
        have hcu:ofC u=Xa c:=by
         have key:∀ (vs:List Value) (cs:List SC) (j:Nat),Zf3 vs=Xa cs→cs[j]? = Xa c→vs[j]? = Xa u→ofC u=Xa c:=by
          intro vs
          induction vs with
          | nil => intro cs j _ _ h; simp at h
          | cons v vs ih =>
           intro cs j h hc hv
           simp only [Zf3] at h
           split at h
           ·rename_i c' cs' hc' hcs'
            simp only [Xf] at h
            subst h
            cases j with
            | zero => simp at hc hv; subst hc; subst hv; exact hc'
            | succ j => exact ih cs' j hcs' (by simpa using hc) (by simpa using hv)
           ·cases h
         exact key _ _ j hsc h2 hu
        have hnorm:(∃ e',ZbN e c = .own Xc e' .nil∧u = .slice Xe 0 0)∨ZbN e c = .c c:=by
         cases e with
         | none => right; cases c <;> rfl
         | some e =>
          cases c with
          | slice f s l =>
           cases f with
           | false => right; cases l <;> rfl
           | true =>
            cases l with
            | nil =>
             left
             refine ⟨e,rfl,?_⟩
             unfold ofC at hcu
             split at hcu<;>simp at hcu
             rfl
            | _ => right; rfl
          | _ => right; rfl
        rcases hnorm with ⟨e',h3,h4⟩ | h3
        ·rw [h3] at hx
         exact .inr ⟨_,e',hx.symm,h4⟩
        ·rw [h3] at hx
         left
         rw [← Zhz ρ,hcu,← hx]
         rfl
     ·obtain ⟨j,hj⟩:=XU.1 hc
      rw [List.getElem?_zipWith] at hj
      cases h1:(Yd P 8 T)[j]? with
      | none => simp [h1] at hj
      | some e =>
       cases h2:sc[j]? with
       | none => simp [h1, h2] at hj
       | some c' =>
        simp only [h1,h2,Xf] at hj
        subst hj
        have hb:c'.bd n:=V9 hsc c' (Xj h2)
        unfold ZbN
        split
        ·trivial
        ·exact hb
    ·cases h
   ·cases h
  ·cases h
 ·cases h
theorem Zj5 (s:Sh) (n:Nat):(Jq s n).bd (n+1):=by cases s<;>exact Uu n
theorem JA:∀ (l:List Sh) (n:Nat),∀ c∈ZF l n,c.bd (n+l.length)
 | [], n, c, h => by simp [ZF] at h
 | s :: ss, n, c, h => by
  rcases Xu.1 h with rfl | h
  ·exact SC.bd_mono (by simp) _ (Zj5 s n)
  ·have:=JA ss (n+1) c h
   exact SC.bd_mono (by simp only [XN];omega) _ this
theorem Zpn (s:Sh) (n:Nat):(Zqt s n).bd (n+1):=by cases s<;>exact Uu n
theorem Ye:∀ (l:List Sh) (n:Nat),∀ c∈Ks l n,c.bd (n+l.length)
 | [], n, c, h => by simp [Ks] at h
 | s :: ss, n, c, h => by
  rcases Xu.1 h with rfl | h
  ·exact BC.bd_mono (by simp) _ (Zpn s n)
  ·have:=Ye ss (n+1) c h
   exact BC.bd_mono (by simp only [XN];omega) _ this
theorem Kt:∀ (aZ:List SV) (n:Nat),n≤(JH aZ n).2.2
 | [], n => XA n
 | a :: aZ, n => by
  cases a with
  | box cs =>
   simp only [JH]
   exact XY (XX _ _) (Kt aZ _)
  | gbox cs =>
   simp only [JH]
   exact XY (XX _ _) (Kt aZ _)
  | _ => exact Kt aZ n
theorem Zeo:∀ (aZ:List SV) (n:Nat),(JH aZ n).1.length=aZ.length
 | [], n => rfl
 | a :: aZ, n => by
  cases a<;>simp only [JH,XN,Zeo aZ]
theorem Zay:∀ (aZ:List SV) (n:Nat),∀ x∈(JH aZ n).1,x.bd (JH aZ n).2.2
 | [], n, x, h => by simp [JH] at h
 | a :: aZ, n, x, h => by
  cases a with
  | box cs =>
   simp only [JH] at h ⊢
   rcases Xu.1 h with rfl | h
   ·intro c hc
    have h1:=Ye (cs.map ZnT) n c hc
    exact BC.bd_mono (Kt aZ _) _ h1
   ·exact Zay aZ _ x h
  | gbox cs =>
   simp only [JH] at h ⊢
   rcases Xu.1 h with rfl | h
   ·intro c hc
    have h1:=Ye (cs.map ZnT) n c hc
    exact BC.bd_mono (Kt aZ _) _ h1
   ·exact Zay aZ _ x h
  | _ =>
   simp only [JH] at h ⊢
   rcases Xu.1 h with rfl | h
   ·trivial
   ·exact Zay aZ _ x h
theorem Ws:∀ (aZ:List SV) (n i:Nat) (to:Bool) (cs:List BC) (y:SV),aZ[i]? = Xa (ZnE to cs)→(JH aZ n).1[i]? = Xa y→∃ cs',y=ZnE to cs'
 | [], n, i, to, cs, y, h, _ => by simp at h
 | a :: aZ, n, i, to, cs, y, h, h' => by
  cases i with
  | zero =>
   simp only [XK,Xf] at h
   subst h
   cases to with
   | false =>
    simp only [ZnE,JH,XK,Xf] at h'
    exact ⟨_,h'.symm⟩
   | true =>
    simp only [ZnE,JH,XK,Xf] at h'
    exact ⟨_,h'.symm⟩
  | succ i =>
   have h1:aZ[i]? = Xa (ZnE to cs):=by simpa using h
   cases a with
   | box ds => simp only [JH, Ul] at h'; exact Ws aZ _ i to cs y h1 h'
   | gbox ds => simp only [JH, Ul] at h'; exact Ws aZ _ i to cs y h1 h'
   | _ => simp only [JH, Ul] at h'; exact Ws aZ _ i to cs y h1 h'
theorem ZnN (r:RSh) (n:Nat):(Zqr r n).1.bd (n+(Zqr r n).2.length):=by
 cases r with
 | c s => cases s <;> exact Uu n
 | agg l => exact JA l n
 | box l => exact JA l n
 | aggo l => exact JA l n
theorem WI {P:Program} {fresh:Nat} : ∀ (Ts:List TypeId) (n:Nat) (vs:List TC) (sh:List Sh) (n':Nat),ZaG P fresh Ts n=Xa (vs,sh,n')→n≤n'∧∀ v∈vs,v.bd n'∧v≠.gone
 | [], n, vs, sh, n', h => by
  simp only [ZaG,Xf,Xo] at h
  obtain ⟨rfl,rfl,rfl⟩:=h
  exact ⟨XA _,by simp⟩
 | T :: Ts, n, vs, sh, n', h => by
  simp only [ZaG] at h
  split at h
  ·rename_i r hr
   split at h
   ·rename_i vs' sh' m hm
    simp only [Xf,Xo] at h
    obtain ⟨rfl,rfl,rfl⟩:=h
    obtain ⟨h1,h2⟩:=WI Ts _ vs' sh' m hm
    refine ⟨by omega,fun v hv=>?_⟩
    rcases Xu.1 hv with rfl | hv
    ·exact ⟨TC.bd_mono h1 _ (ZnN r n),by cases r with | c s=>cases s<;>exact fun h=>(by cases h) | agg l=>exact fun h=>(by cases h) | box l=>exact fun h=>(by cases h) | aggo l=>exact fun h=>(by cases h)⟩
    ·exact h2 v hv
   ·cases h
  ·cases h
theorem Zb4 (ρ:Nat→V) (x:TC):(ZsX x).den ρ=x.den ρ:=by cases x<;>rfl
theorem ZrC {n:Nat} {x:TC} (h:x.bd n):(ZsX x).bd n:=by cases x<;>exact h
theorem Zk9 (ρ:Nat→V) (x:TC) (hx:x≠.gone):Zg7 (x.den ρ):=by
 cases x with
 | c y => cases y <;> first | exact .inl (.inl ⟨_, rfl⟩) | exact .inl (.inr (.inr ⟨_, _, _, rfl⟩))
 | agg cs => exact .inl (.inr (.inl ⟨_, rfl⟩))
 | own x e l => exact .inr (.inl ⟨_, _, _, rfl⟩)
 | gone => exact (hx rfl).elim
theorem ZhE {P:Program} {fresh:Nat} {Ts:List TypeId} {n n':Nat} {res:SV} {sh:List Sh} (h:Zfc P fresh Ts n=Xa (res,sh,n')) :
  n≤n'∧res.bd n'∧∀ ρ,Zg7 (res.den ρ):=by
 unfold Zfc at h
 split at h
 ·rename_i x sh' m hm
  simp only [Xf,Xo] at h
  obtain ⟨rfl,rfl,rfl⟩:=h
  obtain ⟨h1,h2⟩:=WI Ts n [x] sh' m hm
  exact ⟨h1,ZrC (h2 x (by simp)).1,fun ρ=>by rw [Zb4];exact Zk9 ρ x (h2 x (by simp)).2⟩
 ·rename_i vs sh' m _ hm
  simp only [Xf,Xo] at h
  obtain ⟨rfl,rfl,rfl⟩:=h
  obtain ⟨h1,h2⟩:=WI Ts n vs sh' m hm
  exact ⟨h1,fun v hv=>(h2 v hv).1,fun ρ=>.inr (.inr (.inl ⟨_,rfl⟩))⟩
 ·cases h
theorem Zkj {P:Program} {E:Env} {f:FuncId} {Ts:List TypeId} {n n':Nat} {res:SV} {sh:List Sh} (h:Zic P E f Ts n=Xa (res,sh,n')) :
  n≤n'∧res.bd n'∧∀ ρ,Zg7 (res.den ρ):=by
 unfold Zic at h
 split at h
 ·rename_i l _
  simp only [Xf,Xo] at h
  obtain ⟨rfl,rfl,rfl⟩:=h
  exact ⟨XX _ _,Ye l n,fun ρ=>.inr (.inr (.inr (.inr ⟨_,rfl⟩)))⟩
 ·split at h
  ·rename_i l _
   simp only [Xf,Xo] at h
   obtain ⟨rfl,rfl,rfl⟩:=h
   exact ⟨XX _ _,Ye l n,fun ρ=>.inr (.inr (.inr (.inl ⟨_,rfl⟩)))⟩
  ·exact ZhE h
def SAK.den (ρ:Nat→V):SAK→AK
 | .imm x => .imm (x.den ρ)
 | .own t x e l => .own t x e (l.den ρ)
 | .box d fr to cs => .box d fr to (cs.map (BC.den ρ))
 | .clo g ds gs => .clo g ds gs
 | .ref t d q j => .ref t d q j
 | .pad => .pad
theorem ZbZ (ρ:Nat→V) (gh:Bool) (cs:List BC):(ZnE gh cs).den ρ=mkB gh (cs.map (BC.den ρ)):=by cases gh<;>rfl
theorem Zp6 (ρ:Nat→V) (a:SAK):(a.den ρ).av=a.sv.den ρ:=by
 cases a with
 | box d fr to cs => exact (ZbZ ρ to cs).symm
 | _ => rfl
theorem Zb6 (ρ:Nat→V) (a:SAK):(a.den ρ).slot=a.slot:=by cases a<;>rfl
theorem ZjR {x:SV} {ρ:Nat→V} {b:Bool} {e:TypeId} {ys:List (List AV)} (h:x.den ρ = .own b e ys):∃ l,x = .own b e l:=by
 cases x with
 | own b' e' l => simp only [SV.den, AV.own.injEq] at h; obtain ⟨rfl, rfl, _⟩ := h; exact ⟨l, rfl⟩
 | c y => cases y <;> cases h
 | _ => cases h
theorem Zia {x:SV} {ρ:Nat→V} {d q:Nat} (h:x.den ρ = .mref d q):x = .mref d q:=by
 cases x with
 | mref d' q' => simp only [SV.den, AV.mref.injEq] at h; obtain ⟨rfl, rfl⟩ := h; rfl
 | c y => cases y <;> cases h
 | _ => cases h
theorem Zf5 {x:SV} {k:Nat} {e:TypeId} {l:LE} (ρ:Nat→V) (h:Jd x k=Xa (e,l)):Zr (x.den ρ) k=Xa (e,l.den ρ):=by
 unfold Jd at h
 split at h
 ·simp only [Xf,Xo] at h
  obtain ⟨rfl,rfl⟩:=h
  rfl
 ·rename_i cs q
  split at h
  ·rename_i e' l' hc
   simp only [Xf,Xo] at h
   obtain ⟨rfl,rfl⟩:=h
   simp only [SV.den,Zr,Xl,hc]
   rfl
  ·cases h
 ·rename_i cs q
  split at h
  ·rename_i e' l' hc
   simp only [Xf,Xo] at h
   obtain ⟨rfl,rfl⟩:=h
   simp only [SV.den,Zr,Xl,hc]
   rfl
  ·cases h
 ·cases h
theorem ZoT {P:Program} {g:Nat→SV} {x:Operand} {a:SAK} (ρ:Nat→V) (h:ZqL P g x=Xa a):(a.den ρ).ok P (fun d=>(g d).den ρ) (.op x)∧a.sv.isG=Xc∧∀ h ds gs,a = .clo h ds gs→gs = []:=by
 unfold ZqL at h
 split at h
 ·rename_i t b e l h1 h2
  simp only [Xf] at h
  subst h
  have hx:x = .tmp t:=by cases x<;>simp [Z0] at h1;rw [h1]
  subst hx
  simp only [Z0,Xv,Xf] at h2
  exact ⟨⟨rfl,by show (g t).den ρ=_;rw [h2];rfl⟩,rfl,fun _ _ _ h=>by cases h⟩
 ·rename_i hno
  split at h
  ·rename_i v hv
   simp only [Xf] at h
   subst h
   refine ⟨.inl ⟨Zi ρ hv,?_⟩,rfl,fun _ _ _ h=>by cases h⟩
   cases v<;>first | exact .inl ⟨_,rfl⟩ | exact .inr (.inr ⟨_,_,_,rfl⟩)
  ·rename_i cs hv
   simp only [Xf] at h
   subst h
   exact ⟨.inl ⟨Zi ρ hv,.inr (.inl ⟨_,rfl⟩)⟩,rfl,fun _ _ _ h=>by cases h⟩
  ·rename_i d hv
   split at h
   ·rename_i cs hcs
    split at h
    ·simp only [Xf] at h
     subst h
     exact ⟨⟨Zi ρ hv,by show (g d).den ρ=_;rw [hcs];rfl,rfl,rfl⟩,rfl,fun _ _ _ h=>by cases h⟩
    ·cases h
   ·cases h
  ·rename_i f ds hv
   simp only [Xf] at h
   subst h
   exact ⟨Zi ρ hv,rfl,fun _ _ _ h=>by cases h;rfl⟩
  ·rename_i d q hv
   split at h
   ·rename_i e l hp
    split at h
    ·rename_i h0
     simp only [Xf] at h
     subst h
     refine ⟨.inr ⟨d,q,e,l.den ρ,⟨Zi ρ hv,fun t e' ys hx ht=>?_⟩,Zf5 ρ hp,⟨by omega,h0.2⟩,rfl⟩,rfl,fun _ _ _ h=>by cases h⟩
     obtain ⟨l',hl'⟩:=ZjR (show (g t).den ρ=_ from ht)
     subst hx
     exact hno t Xb e' l' rfl (by simp only [Z0,Xv,hl'])
    ·cases h
   ·cases h
  ·cases h
def VJ (P:Program) (g:Nat→SV) (ρ:Nat→V) (xs:List Zby) (aZ:List SAK):Prop:=
 xs.length=aZ.length∧∀ (i:Nat) (x:Zby) (a:SAK),xs[i]? = Xa x→aZ[i]? = Xa a→(a.den ρ).ok P (fun d=>(g d).den ρ) x
theorem VJ.append {P:Program} {g:Nat→SV} {ρ:Nat→V} {xs ys:List Zby} {aZ bs:List SAK} (h:VJ P g ρ xs aZ) (k:VJ P g ρ ys bs):VJ P g ρ (xs++ys) (aZ++bs):=by
 refine ⟨by rw [Xr,Xr,h.1,k.1],fun i x a hx ha=>?_⟩
 rcases XD i xs.length with hi | hi
 ·rw [XE hi] at hx
  rw [XE (by rw [← h.1];exact hi)] at ha
  exact h.2 i x a hx ha
 ·rw [XB hi] at hx
  rw [XB (by rw [← h.1];exact hi),← h.1] at ha
  exact k.2 _ x a hx ha
def Raw (aZ:List SAK):Prop:=∀ a∈aZ,a.sv.isG=Xc∧∀ h ds gs,a = .clo h ds gs→gs = []
theorem Zpz {P:Program} {g:Nat→SV} {x:Operand} {a:SAK} (ρ:Nat→V) (h:Zc7 g x=Xa a):(a.den ρ).ok P (fun d=>(g d).den ρ) (.op x)∧a.sv.isG=Xc∧(∀ h ds gs,a = .clo h ds gs→gs = [])∧∃ t d q j,a = .ref t d q j:=by
 unfold Zc7 at h
 split at h
 ·rename_i t d q h1 h2
  simp only [Xf] at h
  subst h
  have hx:x = .tmp t:=by cases x<;>simp [Z0] at h1;rw [h1]
  subst hx
  simp only [Z0,Xv,Xf] at h2
  exact ⟨⟨rfl,by show (g t).den ρ=_;rw [h2];rfl⟩,rfl,(fun _ _ _ h=>by cases h),t,d,q,0,rfl⟩
 ·cases h
def Zsx (rf:List Nat) (g:Nat→SV) (xs:List Operand) (aZ:List SAK) (i0:Nat):Prop:=∀ (i:Nat) (a:SAK) (x:Operand),xs[i]? = Xa x→aZ[i]? = Xa a→(rf.contains (i0+i)&&(Zc7 g x).isSome)=Xb→∃ t d q j,a = .ref t d q j
theorem ZaE {P:Program} {g:Nat→SV} {rf:List Nat} (ρ:Nat→V):∀ (xs:List Operand) (i0:Nat) (aZ:List SAK),Zdn P g rf xs i0=Xa aZ→VJ P g ρ (xs.map .op) aZ∧Raw aZ∧Zsx rf g xs aZ i0
 | [], i0, aZ, h => by simp only [Zdn, Xf] at h; subst h; exact ⟨⟨rfl, by simp⟩, by simp [Raw], by simp [Zsx]⟩
 | x :: xs, i0, aZ, h => by
  simp only [Zdn] at h
  split at h
  ·rename_i a as' ha has
   simp only [Xf] at h
   subst h
   obtain ⟨⟨h1,h2⟩,h3,h4⟩:=ZaE ρ xs (i0+1) as' has
   obtain ⟨k1,k2,k3,k4⟩:(a.den ρ).ok P (fun d=>(g d).den ρ) (.op x)∧a.sv.isG=Xc∧(∀ h ds gs,a = .clo h ds gs→gs = [])∧((rf.contains i0&&(Zc7 g x).isSome)=Xb→∃ t d q j,a = .ref t d q j):=by
    split at ha
    ·obtain ⟨k1,k2,k3,k4⟩:=Zpz (P:=P) ρ ha
     exact ⟨k1,k2,k3,fun _=>k4⟩
    ·rename_i hn
     obtain ⟨k1,k2,k3⟩:=ZoT ρ ha
     exact ⟨k1,k2,k3,fun h=>(hn h).elim⟩
   refine ⟨⟨by simpa using h1,fun i y b hy hb=>?_⟩,fun b hb=>?_,fun i b y hy hb hc=>?_⟩
   ·cases i with
    | zero =>
     simp only [Xk,XK,Xf] at hy hb
     subst hy
     subst hb
     exact k1
    | succ i => exact h2 i y b (by simpa using hy) (by simpa using hb)
   ·rcases Xu.1 hb with rfl | hb
    ·exact ⟨k2,k3⟩
    ·exact h3 b hb
   ·cases i with
    | zero =>
     simp only [XK,Xf] at hb hy
     subst hb
     subst hy
     exact k4 hc
    | succ i => exact h4 i b y (by simpa using hy) (by simpa using hb) (by rw [Uw, Nat.add_comm 1 i]; exact hc)
  ·cases h
theorem Zog {g:Nat→SV} {to:Bool} {d:Nat} {a:SAK} (ρ:Nat→V) (h:Zru g to d=Xa a):∃ fr cs,a = .box d fr to cs∧(g d).den ρ=mkB fr (cs.map (BC.den ρ)):=by
 unfold Zru at h
 split at h
 ·rename_i cs hcs
  split at h
  ·simp only [Xf] at h
   exact ⟨Xc,cs,h.symm,by rw [hcs];rfl⟩
  ·cases h
 ·rename_i cs hcs
  split at h
  ·simp only [Xf] at h
   exact ⟨Xb,cs,h.symm,by rw [hcs];rfl⟩
  ·cases h
 ·cases h
theorem Zak {g:Nat→SV} {to:Bool} (ρ:Nat→V):∀ (ds:List Nat) (aZ:List SAK),Zad g to ds=Xa aZ→aZ.length=ds.length∧∀ (i d:Nat),ds[i]? = Xa d→∃ fr cs,aZ[i]? = Xa (.box d fr to cs)∧
  (g d).den ρ=mkB fr (cs.map (BC.den ρ))
 | [], aZ, h => by simp only [Zad, Xf] at h; subst h; exact ⟨rfl, by simp⟩
 | d :: ds, aZ, h => by
  simp only [Zad] at h
  split at h
  ·rename_i a as' ha has
   simp only [Xf] at h
   subst h
   obtain ⟨h1,h2⟩:=Zak ρ ds as' has
   refine ⟨by simp [h1],fun i e he=>?_⟩
   cases i with
   | zero =>
    simp only [XK,Xf] at he
    subst he
    obtain ⟨fr,cs,rfl,k2⟩:=Zog ρ ha
    exact ⟨fr,cs,rfl,k2⟩
   | succ i => exact h2 i e (by simpa using he)
  ·cases h
theorem ZrH {P:Program} {g:Nat→SV} (ρ:Nat→V) {ds:List Nat} {aZ:List SAK} (h:Zad g Xc ds=Xa aZ):VJ P g ρ (ds.map .cap) aZ∧Raw aZ:=by
 obtain ⟨h1,h2⟩:=Zak ρ ds aZ h
 refine ⟨⟨by simp [h1],fun i x a hx ha=>?_⟩,fun a ha=>?_⟩
 ·rw [Xl] at hx
  cases hd:ds[i]? with
  | none => rw [hd] at hx; cases hx
  | some d =>
   rw [hd] at hx
   simp only [Xv,Xf] at hx
   subst hx
   obtain ⟨fr,cs,k1,k2⟩:=h2 i d hd
   rw [k1] at ha
   simp only [Xf] at ha
   subst ha
   exact ⟨rfl,k2,rfl⟩
 ·obtain ⟨i,hi⟩:=XU.1 ha
  have hlt:i < ds.length:=by rw [← h1];exact (Xn.1 hi).1
  obtain ⟨fr,cs,k1,_⟩:=h2 i _ (Xq hlt)
  rw [k1] at hi
  simp only [Xf] at hi
  subst hi
  exact ⟨rfl,fun _ _ _ h=>by cases h⟩
theorem Znw {P:Program} {g:Nat→SV} (ρ:Nat→V) {ds:List Nat} {aZ:List SAK} (h:Zad g Xb ds=Xa aZ):VJ P g ρ (ds.map fun _=>.ghost) aZ:=by
 obtain ⟨h1,h2⟩:=Zak ρ ds aZ h
 refine ⟨by simp [h1],fun i x a hx ha=>?_⟩
 rw [Xl] at hx
 cases hd:ds[i]? with
 | none => rw [hd] at hx; cases hx
 | some d =>
  rw [hd] at hx
  simp only [Xv,Xf] at hx
  subst hx
  obtain ⟨fr,cs,k1,k2⟩:=h2 i d hd
  rw [k1] at ha
  simp only [Xf] at ha
  subst ha
  exact ⟨k2,rfl⟩
theorem KT:∀ (aZ:List SAK) (h:FuncId) (ds gs:List Nat),SAK.clo h ds gs∈aZ→∀ d∈ds,d∈Zz aZ
 | [], _, _, _, hm, _, _ => by simp at hm
 | a :: aZ, h, ds, gs, hm, d, hd => by
  have htail:d∈Zz aZ→d∈Zz (a::aZ):=by
   intro hx
   cases a with
   | clo _ _ _ => exact Xs.2 (.inr hx)
   | ref _ _ _ _ =>
    simp only [Zz]
    split
    ·exact hx
    ·exact UC _ hx
   | _ => exact hx
  rcases Xu.1 hm with rfl | hm
  ·by_cases hx:d∈Zz aZ
   ·exact htail hx
   ·refine Xs.2 (.inl ?_)
    rw [List.mem_eraseDups,U4]
    exact ⟨hd,by simpa using hx⟩
  ·exact htail (KT aZ h ds gs hm d hd)
theorem Kq:∀ (aZ:List SAK) (t d q j:Nat),SAK.ref t d q j∈aZ→d∈Zz aZ
 | [], _, _, _, _, hm => by simp at hm
 | a :: aZ, t, d, q, j, hm => by
  rcases Xu.1 hm with rfl | hm
  ·simp only [Zz]
   split
   ·rename_i hx;simpa using hx
   ·exact TU
  ·have hx:=Kq aZ t d q j hm
   cases a with
   | clo _ _ _ => exact Xs.2 (.inr hx)
   | ref _ _ _ _ =>
    simp only [Zz]
    split
    ·exact hx
    ·exact UC _ hx
   | _ => exact hx
theorem Zh4:∀ (l:List Nat) (d:Nat),d∈l→l[ZnG d l]? = Xa d
 | [], _, h => by simp at h
 | x :: xs, d, h => by
  unfold ZnG
  split
  ·rename_i hx;rw [hx];rfl
  ·rename_i hx
   rcases Xu.1 h with rfl | h
   ·exact (hx rfl).elim
   ·simpa using Zh4 xs d h
theorem ZlG {P:Program} {σ:Nat→AV} {ρ:Nat→V} {base:Nat} {gh:List Nat} {x:Zby} {a:SAK} (h:(a.den ρ).ok P σ x):((ZbE base gh a).den ρ).ok P σ x:=by
 cases a with
 | clo f ds gs => cases x <;> exact h
 | ref t d q j => cases x <;> exact h
 | _ => exact h
theorem ZaT (ρ:Nat→V) {x:SC} (h:Zbo x=Xb):WV (x.den ρ)=Xb:=by cases x<;>first | rfl | cases h
theorem Zeq (ρ:Nat→V) {x:SV} (h:Zjf x=Xb):ZdO (x.den ρ)=Xb:=by
 have hcs:∀ cs:List SC,cs.all Zbo=Xb→(cs.map (SC.den ρ)).all WV=Xb:=by
  intro cs h
  rw [XC] at h ⊢
  intro y hy
  obtain ⟨z,hz,rfl⟩:=Xm.1 hy
  exact ZaT ρ (h z hz)
 have hbs:∀ cs:List BC,cs.all ZkV=Xb→(cs.map (BC.den ρ)).all WV=Xb:=by
  intro cs h
  rw [XC] at h ⊢
  intro y hy
  obtain ⟨z,hz,rfl⟩:=Xm.1 hy
  have:=h z hz
  cases z with
  | c w => exact ZaT ρ this
  | own _ _ _ => cases this
  | gone => cases this
 cases x with
 | c y => cases y <;> first | rfl | cases h
 | dead => rfl
 | agg cs => exact hcs cs h
 | box cs => exact hbs cs h
 | gbox cs => exact hbs cs h
 | tuple vs =>
  simp only [Zjf,XC] at h
  simp only [SV.den,ZdO,XC]
  intro y hy
  obtain ⟨z,hz,rfl⟩:=Xm.1 hy
  have:=h z hz
  cases z with
  | c w =>
   have h2:=ZaT ρ (show Zbo w=Xb from this)
   cases w<;>first | rfl | cases this
  | agg cs => exact hcs cs this
  | own _ _ _ => cases this
  | gone => cases this
 | _ => cases h
theorem Zg9 {P:Program} {g:Nat→SV} {rf:List Nat} (ρ:Nat→V):∀ {args:List Operand} {i0 i:Nat} {x:Operand} {d q:Nat},args[i]? = Xa x→(rf.contains (i0+i)&&(Zc7 g x).isSome)=Xc→Zt P (fun d=>(g d).den ρ) x = .mref d q→(∀ t e' ys,x = .tmp t→(g t).den ρ≠.own Xb e' ys)→(d,q)∈WL P g rf args i0
 | [], _, i, _, _, _, hx, _, _, _ => by simp at hx
 | y :: rest, i0, i, x, d, q, hx, hi, h, hno => by
  have hg:Ju P g x = .mref d q:=Zia (ρ:=ρ) (by rw [Ym];exact h)
  unfold WL
  cases i with
  | zero =>
   simp only [XK,Xf] at hx
   subst hx
   rw [if_neg (by rw [Ug] at hi;rw [hi];simp)]
   split
   ·rename_i b e l hb
    cases y with
    | tmp t =>
     simp only [Z0,Xv,Xf] at hb
     cases b with
     | true => exact (hno t e (l.den ρ) rfl (by rw [hb]; rfl)).elim
     | false => simp only [Ju, hb] at hg; cases hg
    | _ => simp [Z0] at hb
   ·rw [hg]
    exact TU
  | succ i =>
   have ih:=Zg9 (P:=P) (g:=g) (rf:=rf) ρ (args:=rest) (i0:=i0+1) (i:=i) (by simpa using hx) (by rw [Uw,Nat.add_comm 1 i];exact hi) h hno
   split
   ·exact ih
   ·split
    ·exact ih
    ·split
     ·exact UC _ ih
     ·exact ih
theorem Vd (ρ:Nat→V):∀ (aZ:List SAK),(∀ a∈aZ,a.sv.isG=Xc)→((aZ.map (SAK.den ρ)).map AK.av).countP AV.isG=0
 | [], _ => rfl
 | a :: aZ, h => by
  have h0:=h a (by simp)
  have:(a.den ρ).av.isG=Xc:=by
   rw [Zp6]
   cases a with
   | imm x => cases x <;> first | rfl | (rename_i y; cases y <;> rfl) | (simp [SAK.sv, SV.isG] at h0)
   | own t x e l => rfl
   | box d fr to cs => cases to <;> first | rfl | (simp [SAK.sv, ZnE, SV.isG] at h0)
   | clo g ds gs => rfl
   | ref t d q j => rfl
   | pad => rfl
  rw [Xk,Xk,UZ,Vd ρ aZ fun b hb=>h b (by simp [hb]),this]
  rfl
theorem ZkA {P:Program} {g:Nat→SV} (ρ:Nat→V) {xs:List Zby} {aZ saks:List SAK} {nt:Nat} (hx:VJ P g ρ xs aZ) (hr:Raw aZ) (h:Zbb g nt aZ=Xa saks) :
  ∃ tail,VJ P g ρ (xs++tail) saks∧(∀ x∈tail,x = .pad∨x = .ghost)∧xs.length+((saks.map (SAK.den ρ)).map AK.av).countP AV.isG≤saks.length∧ZrZ (saks.map (SAK.den ρ))∧Zr4 (saks.map (SAK.den ρ))∧∀ (i t d q j:Nat),aZ[i]? = Xa (SAK.ref t d q j)→∃ j',saks[i]? = Xa (SAK.ref t d q j'):=by
 unfold Zbb at h
 split at h
 ·rename_i hg
  simp only [Xf] at h
  subst h
  refine ⟨[],by rw [Us];exact hx,by simp,by rw [Vd ρ aZ fun a ha=>(hr a ha).1,hx.1];exact XA _,fun i f ds gs hi=>?_,fun i t d q j hi=>?_,fun i t d q j hi=>⟨j,hi⟩⟩
  case refine_2=>
   rw [Xl] at hi
   cases ha:aZ[i]? with
   | none => rw [ha] at hi; cases hi
   | some a =>
    rw [ha] at hi
    simp only [Xv,Xf] at hi
    cases a<;>simp only [SAK.den,reduceCtorEq] at hi
    have:=Kq aZ _ _ _ _ (Xj ha)
    rw [hg] at this
    cases this
  rw [Xl] at hi
  cases ha:aZ[i]? with
  | none => rw [ha] at hi; cases hi
  | some a =>
   rw [ha] at hi
   simp only [Xv,Xf] at hi
   have hm:=Xj ha
   cases a<;>simp only [SAK.den,reduceCtorEq] at hi
   rename_i f' ds' gs'
   simp only [AK.clo.injEq] at hi
   obtain ⟨rfl,rfl,rfl⟩:=hi
   have hgs:=(hr _ hm).2 _ _ _ rfl
   have hds:ds' = []:=by
    refine TX.2 fun d hd=>?_
    have:=KT aZ f' ds' gs' hm d hd
    rw [hg] at this
    cases this
   subst hgs
   subst hds
   exact ⟨rfl,fun k d j hk=>by simp at hk⟩
 ·split at h
  ·rename_i hle
   cases hc:Zad g Xb (Zz aZ) with
   | none => rw [hc] at h; cases h
   | some gs =>
    rw [hc] at h
    simp only [Xv,Xf] at h
    subst h
    obtain ⟨c1,c2⟩:=Zak ρ (Zz aZ) gs hc
    have hpad:VJ P g ρ (XG (nt-aZ.length) Zby.pad) (XG (nt-aZ.length) SAK.pad):=by
     refine ⟨by simp,fun i x a hx ha=>?_⟩
     have h1:=Xj hx
     have h2:=Xj ha
     rw [(UG.1 h1).2,(UG.1 h2).2]
     trivial
    have hset:VJ P g ρ xs (aZ.map (ZbE nt (Zz aZ))):=by
     refine ⟨by simp [hx.1],fun i x a hxi ha=>?_⟩
     rw [Xl] at ha
     cases hai:aZ[i]? with
     | none => rw [hai] at ha; cases ha
     | some b =>
      rw [hai] at ha
      simp only [Xv,Xf] at ha
      subst ha
      exact ZlG (hx.2 i x b hxi hai)
    refine ⟨XG (nt-aZ.length) Zby.pad++(Zz aZ).map fun _=>Zby.ghost,?_,fun x hx=>?_,?_,fun i f ds js hi=>?_,fun i t d q j hi=>?_,fun i t d q j hi=>?_⟩
    ·rw [← Xw]
     exact (hset.append hpad).append (Znw ρ hc)
    ·rcases Xs.1 hx with hx | hx
     ·exact .inl (UG.1 hx).2
     ·obtain ⟨_,_,rfl⟩:=Xm.1 hx
      exact .inr rfl
    ·have hz1:(((aZ.map (ZbE nt (Zz aZ))).map (SAK.den ρ)).map AK.av).countP AV.isG=0:=Vd ρ _ fun a ha=>by
      obtain ⟨b,hb,rfl⟩:=Xm.1 ha
      have:=(hr b hb).1
      cases b<;>exact this
     have hz2:(((XG (nt-aZ.length) SAK.pad).map (SAK.den ρ)).map AK.av).countP AV.isG=0:=Vd ρ _ fun a ha=>by
      rw [(UG.1 ha).2];rfl
     have hz3:((gs.map (SAK.den ρ)).map AK.av).countP AV.isG≤gs.length:=by
      have:=List.countP_le_length (p:=AV.isG) (l:=(gs.map (SAK.den ρ)).map AK.av)
      simpa using this
     simp only [XJ,List.countP_append,Xr,Xi,List.length_replicate] at hz1 hz2 hz3 ⊢
     rw [hz1,hz2,hx.1]
     omega
    ·rw [Xl] at hi
     have hin:∃ a,(aZ.map (ZbE nt (Zz aZ)))[i]? = Xa a∧a.den ρ = .clo f ds js:=by
      cases hs:(aZ.map (ZbE nt (Zz aZ))++XG (nt-aZ.length) .pad++gs)[i]? with
      | none => rw [hs] at hi; cases hi
      | some a =>
       rw [hs] at hi
       simp only [Xv,Xf] at hi
       rcases XD i aZ.length with h1 | h1
       ·rw [Xw,XE (by simpa using h1)] at hs
        exact ⟨a,hs,hi⟩
       ·rw [Xw,XB (by simpa using h1)] at hs
        rcases Xs.1 (Xj hs) with hm | hm
        ·rw [(UG.1 hm).2] at hi;cases hi
        ·obtain ⟨k,hk⟩:=XU.1 hm
         have hlt:k < (Zz aZ).length:=by rw [← c1];exact (Xn.1 hk).1
         obtain ⟨fr,cs,e1,_⟩:=c2 k _ (Xq hlt)
         rw [e1] at hk
         simp only [Xf] at hk
         subst hk
         cases hi
     obtain ⟨a,ha,hden⟩:=hin
     rw [Xl] at ha
     cases hai:aZ[i]? with
     | none => rw [hai] at ha; cases ha
     | some b =>
      rw [hai] at ha
      simp only [Xv,Xf] at ha
      subst ha
      have hm:=Xj hai
      cases b<;>simp only [ZbE,SAK.den,reduceCtorEq] at hden
      rename_i f' ds' gs'
      simp only [AK.clo.injEq] at hden
      obtain ⟨rfl,rfl,rfl⟩:=hden
      refine ⟨by simp,fun k d j hk hj=>?_⟩
      rw [Xl,hk] at hj
      simp only [Xv,Xf] at hj
      subst hj
      have hd:=KT aZ f' ds' gs' hm d (Xj hk)
      obtain ⟨fr,cs,e1,_⟩:=c2 _ d (Zh4 _ d hd)
      refine ⟨fr,cs.map (BC.den ρ),?_⟩
      rw [Xl,XB (by simp;omega)]
      have:nt+ZnG d (Zz aZ)-(aZ.map (ZbE nt (Zz aZ))++XG (nt-aZ.length) SAK.pad).length=ZnG d (Zz aZ):=by
       simp;omega
      rw [this,e1]
      rfl
    ·rw [Xl] at hi
     have hin:∃ a,(aZ.map (ZbE nt (Zz aZ)))[i]? = Xa a∧a.den ρ = .ref t d q j:=by
      cases hs:(aZ.map (ZbE nt (Zz aZ))++XG (nt-aZ.length) .pad++gs)[i]? with
      | none => rw [hs] at hi; cases hi
      | some a =>
       rw [hs] at hi
       simp only [Xv,Xf] at hi
       rcases XD i aZ.length with h1 | h1
       ·rw [Xw,XE (by simpa using h1)] at hs
        exact ⟨a,hs,hi⟩
       ·rw [Xw,XB (by simpa using h1)] at hs
        rcases Xs.1 (Xj hs) with hm | hm
        ·rw [(UG.1 hm).2] at hi;cases hi
        ·obtain ⟨k,hk⟩:=XU.1 hm
         have hlt:k < (Zz aZ).length:=by rw [← c1];exact (Xn.1 hk).1
         obtain ⟨fr,cs,e1,_⟩:=c2 k _ (Xq hlt)
         rw [e1] at hk
         simp only [Xf] at hk
         subst hk
         cases hi
     obtain ⟨a,ha,hden⟩:=hin
     rw [Xl] at ha
     cases hai:aZ[i]? with
     | none => rw [hai] at ha; cases ha
     | some b =>
      rw [hai] at ha
      simp only [Xv,Xf] at ha
      subst ha
      have hm:=Xj hai
      cases b<;>simp only [ZbE,SAK.den,reduceCtorEq] at hden
      rename_i t' d' q' j'
      simp only [AK.ref.injEq] at hden
      obtain ⟨rfl,rfl,rfl,rfl⟩:=hden
      have hd:=Kq aZ _ _ _ _ hm
      obtain ⟨fr,cs,e1,_⟩:=c2 _ _ (Zh4 _ _ hd)
      refine ⟨fr,cs.map (BC.den ρ),?_⟩
      rw [Xl,XB (by simp;omega)]
      have:nt+ZnG d' (Zz aZ)-(aZ.map (ZbE nt (Zz aZ))++XG (nt-aZ.length) SAK.pad).length=ZnG d' (Zz aZ):=by
       simp;omega
      rw [this,e1]
      rfl
    ·have hlt:=(Xn.1 hi).1
     refine ⟨nt+ZnG d (Zz aZ),?_⟩
     rw [Xw,XE (by simpa using hlt),Xl,hi]
     rfl
  ·cases h
theorem Y3:∀ (l:List Nat),WD l=Xb→l.Nodup
 | [], _ => List.nodup_nil
 | x :: xs, h => by
  simp only [WD,Xx,UK,List.contains_eq_mem,decide_eq_false_iff_not] at h
  exact List.nodup_cons.2 ⟨h.1,Y3 xs h.2⟩
theorem ZnL (ρ:Nat→V) (fr to:Bool) (o:SV):(Zs0 fr to o).den ρ=reB fr to (o.den ρ):=by
 cases to with
 | true => cases o <;> first | exact ZbZ ρ fr _ | rfl | (rename_i x; cases x <;> rfl)
 | false => cases o <;> first | exact ZbZ ρ fr _ | rfl | (rename_i x; cases x <;> rfl)
theorem Zq1 {fr to:Bool} {o:SV} {n:Nat} (h:o.bd n):(Zs0 fr to o).bd n:=by
 unfold Zs0
 split
 ·cases fr<;>exact h
 ·cases fr<;>exact h
 ·trivial
theorem Zgd (ρ ρ':Nat→V):∀ (aZ:List SAK) (os:List SV),Zdi (aZ.map (SAK.den ρ)) (os.map (SV.den ρ'))=(ZaN aZ os).map fun u=>(u.1,u.2.den ρ')
 | [], os => by cases os <;> rfl
 | a :: aZ, [] => by cases a <;> rfl
 | a :: aZ, o :: os => by
  cases a<;>simp only [Xk,SAK.den,Zdi,ZaN,Zgd ρ ρ' aZ os,ZnL]<;>rfl
theorem Vw {n:Nat} : ∀ (aZ:List SAK) (os:List SV),(∀ o∈os,o.bd n)→∀ u∈ZaN aZ os,u.2.bd n
 | [], os, _, u, h => by cases os <;> simp [ZaN] at h
 | a :: aZ, [], _, u, h => by cases a <;> simp [ZaN] at h
 | a :: aZ, o :: os, ho, u, h => by
  cases a with
  | imm x => exact Vw aZ os (fun o' h' => ho o' (by simp [h'])) u h
  | clo _ _ _ => exact Vw aZ os (fun o' h' => ho o' (by simp [h'])) u h
  | pad => exact Vw aZ os (fun o' h' => ho o' (by simp [h'])) u h
  | own t x e l =>
   rcases Xu.1 h with rfl | h
   ·trivial
   ·exact Vw aZ os (fun o' h'=>ho o' (by simp [h'])) u h
  | ref t x e l =>
   rcases Xu.1 h with rfl | h
   ·trivial
   ·exact Vw aZ os (fun o' h'=>ho o' (by simp [h'])) u h
  | box d fr to cs =>
   rcases Xu.1 h with rfl | h
   ·exact Zq1 (ho o (by simp))
   ·exact Vw aZ os (fun o' h'=>ho o' (by simp [h'])) u h
theorem us1 {t n:Nat} {x:SV} (h:x.bd n):∀ u∈[(t,x)],u.2.bd n:=by
 intro u hu
 rw [XH] at hu
 subst hu
 exact h
theorem us2 {t t' n:Nat} {x y:SV} (h:x.bd n) (h':y.bd n):∀ u∈[(t,x),(t',y)],u.2.bd n:=by
 intro u hu
 rcases Xu.1 hu with rfl | hu
 ·exact h
 ·exact us1 h' u hu
theorem Js {g:Nat→SV} {d:Nat} : ∀ (n:Nat) (u:Nat×SV),u∈ZP g d n↔u.2 = .dead∧u.1 < n∧u.1≠d∧Zea d (g u.1)=Xb
 | 0, u => by simp [ZP]
 | n + 1, u => by
  have ih:=Js (g:=g) (d:=d) n u
  have key:∀ p:Prop,(u∈(if n≠d∧Zea d (g n)=Xb then (n,SV.dead)::ZP g d n else ZP g d n)↔p)→(u∈ZP g d (n+1)↔p):=fun p h=>h
  apply key
  split
  ·rename_i h
   rw [Xu,ih]
   constructor
   ·rintro (rfl | ⟨h1,h2,h3⟩)
    ·exact ⟨rfl,Uu n,h.1,h.2⟩
    ·exact ⟨h1,by omega,h3⟩
   ·rintro ⟨h1,h2,h3⟩
    by_cases hn:u.1=n
    ·left
     obtain ⟨a,b⟩:=u
     simp only at h1 hn
     rw [h1,hn]
    ·exact .inr ⟨h1,by omega,h3⟩
  ·rename_i h
   rw [ih]
   constructor
   ·rintro ⟨h1,h2,h3⟩
    exact ⟨h1,by omega,h3⟩
   ·rintro ⟨h1,h2,h3,h4⟩
    refine ⟨h1,?_,h3,h4⟩
    by_cases hn:u.1=n
    ·subst hn;exact (h ⟨h3,h4⟩).elim
    ·omega
theorem ZaM (ρ:Nat→V) (d:Nat) (x:SV):Zea d x=Xb↔∃ k,Jl (x.den ρ) d k:=by
 cases x with
 | mref d' k' =>
  simp only [Zea,beq_iff_eq]
  constructor
  ·rintro rfl;exact ⟨k',.inl rfl⟩
  ·rintro ⟨k,h | ⟨_,h⟩⟩ <;> cases h
   rfl
 | eref d' k' i s o =>
  simp only [Zea,beq_iff_eq]
  constructor
  ·rintro rfl;exact ⟨k',.inr ⟨_,rfl⟩⟩
  ·rintro ⟨k,h | ⟨_,h⟩⟩ <;> cases h
   rfl
 | c y =>
  constructor
  ·intro h;cases h
  ·rintro ⟨k,h | ⟨_,h⟩⟩ <;> cases y<;>cases h
 | _ =>
  constructor
  ·intro h;cases h
  ·rintro ⟨k,h | ⟨_,h⟩⟩ <;> cases h
theorem JB {g:Nat→SV} (ρ:Nat→V) {d top:Nat} (htop:∀ i,top≤i→g i = .dead):Kj (fun d=>(g d).den ρ) d ((ZP g d top).map fun u=>(u.1,u.2.den ρ)):=by
 refine ⟨fun u hu=>?_,fun i k hi hr=>?_⟩
 ·obtain ⟨v,hv,rfl⟩:=Xm.1 hu
  obtain ⟨h1,h2,h3,h4⟩:=(Js top v).1 hv
  exact ⟨h3,by show v.2.den ρ=_;rw [h1];rfl,(ZaM ρ d _).1 h4⟩
 ·have hr':=(ZaM ρ d (g i)).2 ⟨k,hr⟩
  have hlt:i < top:=by
   rcases XD i top with h | h
   ·exact h
   ·rw [htop i h] at hr';cases hr'
  rw [Uf]
  exact Xm.2 ⟨(i,.dead),(Js top (i,.dead)).2 ⟨rfl,hlt,hi,hr'⟩,rfl⟩
theorem ZgT {g:Nat→SV} (ρ:Nat→V) {top:Nat} (htop:∀ i,top≤i→g i = .dead) {txt:Odr} {d:Nat} {us:Ups} (h:Ziw txt g top d=Xa us) :
  (∀ u∈us,u.2 = .dead)∧Yw txt (fun d=>(g d).den ρ) d (us.map fun u=>(u.1,u.2.den ρ)):=by
 unfold Ziw at h
 split at h
 ·simp only [Xf] at h
  subst h
  exact ⟨fun u hu=>((Js top u).1 hu).1,.inl ⟨rfl,JB ρ htop⟩⟩
 ·split at h
  ·rename_i N M K hN
   simp only [Xf] at h
   subst h
   exact ⟨fun u hu=>by simp at hu,.inr ⟨N,M,_,rfl,hN,rfl⟩⟩
  ·cases h
theorem Zjg {P:Program} {e:TypeId} {l:LE} (ρ:Nat→V) (h:mvB P e l=Xb):Mv P e (l.den ρ):=by
 unfold mvB at h
 rcases Te.1 h with h | h
 ·rcases Te.1 h with h | h
  ·rcases Te.1 h with h | h
   ·exact .inl (by simpa using h)
   ·exact .inr (.inl h)
  ·unfold ZiT at h
   split at h
   ·exact .inr (.inr (.inl rfl))
   ·cases h
 ·exact .inr (.inr (.inr (by simpa using h)))
theorem ZoA {P:Program} {res:SV} (ρ:Nat→V) (h:ZqK P res=Xb):∀ e xs,res.den ρ = .own Xb e xs→Mv P e xs:=by
 intro e xs he
 cases res with
 | own x e' l =>
  simp only [SV.den,AV.own.injEq] at he
  obtain ⟨rfl,rfl,_⟩:=he
  simp only [ZqK,US,UK,Option.isNone_iff_eq_none] at h
  exact h.imp id fun h=>.inr (.inr h)
 | c y => cases y <;> cases he
 | _ => cases he
theorem YA {P:Program} {g:Nat→SV} (ρ:Nat→V) {top:Nat} (htop:∀ i,top≤i→g i = .dead) {txt:Odr} {x:Bool} {t:Nat} {e:TypeId} {l:LE} {us:Ups} (ht:g t = .own x e l) (h:Kr P txt g top t x e l=Xa us) :
  ∃ us',us=us'∧(us'.map fun u=>(u.1,u.2.den ρ))=(t,K8 P x e (l.den ρ))::(us'.tail.map fun u=>(u.1,u.2.den ρ))∧((x=Xc∧(us'.tail.map fun u=>(u.1,u.2.den ρ)) = [])∨Yw txt (fun d=>(g d).den ρ) t (us'.tail.map fun u=>(u.1,u.2.den ρ)))∧(x=Xb→Mv P e (l.den ρ)):=by
 unfold Kr at h
 split at h
 ·simp only [Xf] at h
  subst h
  exact ⟨_,rfl,rfl,.inl ⟨rfl,rfl⟩,fun h=>by cases h⟩
 ·split at h
  case isFalse=>cases h
  rename_i hmv
  split at h
  ·simp only [Xf] at h
   subst h
   exact ⟨_,rfl,rfl,.inr (.inl ⟨rfl,JB ρ htop⟩),fun _=>Zjg ρ hmv⟩
  ·rename_i N M K
   split at h
   ·rename_i hN
    simp only [Xf] at h
    subst h
    exact ⟨_,rfl,rfl,.inr (.inr ⟨N,M,_,rfl,hN,rfl⟩),fun _=>Zjg ρ hmv⟩
   ·cases h
theorem Yz {P:Program} {g:Nat→SV} {top n:Nat} {txt:Odr} {x:Bool} {t:Nat} {e:TypeId} {l:LE} {us:Ups} (h:Kr P txt g top t x e l=Xa us) (hl:l.bd n):∀ u∈us,u.2.bd n:=by
 unfold Kr at h
 split at h
 ·simp only [Xf] at h
  subst h
  exact us1 hl
 ·split at h
  case isFalse=>cases h
  split at h
  ·simp only [Xf] at h
   subst h
   intro u hu
   rcases Xu.1 hu with rfl | hu
   ·trivial
   ·rw [((Js top u).1 hu).1];trivial
  ·split at h
   ·simp only [Xf] at h
    subst h
    exact us1 trivial
   ·cases h
theorem Wu {cs:List BC} {off m:Nat} (h:V8 ((cs.drop off).take m)=Xb) (ρ:Nat→V):Zbx (((cs.map (BC.den ρ)).drop off).take m):=by
 rw [← Ut,← Ui]
 exact Zcm h ρ
theorem ZdY {cs:List BC} {off m:Nat} (h:VD ((cs.drop off).take m)=Xb) (ρ:Nat→V):Whole (((cs.map (BC.den ρ)).drop off).take m):=by
 rw [← Ut,← Ui]
 exact V6 h ρ
theorem ZjJ {g:Nat→SV} (ρ:Nat→V) {top:Nat} (htop:∀ i,top≤i→g i = .dead) {txt:Odr} {d:Nat} {cs:List BC} {off m:Nat} (h:(V8 ((cs.drop off).take m)||Zfi txt g top d)=Xb) :
  Zbx (((cs.map (BC.den ρ)).drop off).take m)∨Yw txt (fun d=>(g d).den ρ) d []:=by
 rcases Te.1 h with h | h
 ·exact .inl (Wu h ρ)
 ·right
  unfold Zfi at h
  split at h
  ·simp only [Tw] at h
   refine .inl ⟨rfl,by simp,fun j q hj hr=>?_⟩
   have:=(JB ρ htop (d:=d)).2 j q hj hr
   rw [h] at this
   exact this
  ·exact .inr ⟨_,_,_,rfl,h,rfl⟩
theorem Kb {x:SV} (ρ:Nat→V) (h:x.isG=Xc):(x.den ρ).isG=Xc:=by
 cases x with
 | gbox cs => cases h
 | c y => cases y <;> rfl
 | _ => rfl
theorem ZQ {x:SV} {k:Nat} {e:TypeId} {l:LE} (ρ:Nat→V) (h:Jd x k=Xa (e,l)):Zr (x.den ρ) k=Xa (e,l.den ρ):=by
 unfold Jd at h
 split at h
 ·simp only [Xf,Xo] at h
  obtain ⟨rfl,rfl⟩:=h
  rfl
 ·rename_i cs q
  split at h
  ·rename_i e' l' hc
   simp only [Xf,Xo] at h
   obtain ⟨rfl,rfl⟩:=h
   simp only [SV.den,Zr,Xl,hc]
   rfl
  ·cases h
 ·rename_i cs q
  split at h
  ·rename_i e' l' hc
   simp only [Xf,Xo] at h
   obtain ⟨rfl,rfl⟩:=h
   simp only [SV.den,Zr,Xl,hc]
   rfl
  ·cases h
 ·cases h
theorem Jy {x:SV} {k n:Nat} {e:TypeId} {l:LE} (h:Jd x k=Xa (e,l)) (hb:x.bd n):l.bd n:=by
 unfold Jd at h
 split at h
 ·simp only [Xf,Xo] at h
  obtain ⟨rfl,rfl⟩:=h
  exact hb
 ·rename_i cs q
  split at h
  ·rename_i e' l' hc
   simp only [Xf,Xo] at h
   obtain ⟨rfl,rfl⟩:=h
   exact hb _ (Xj hc)
  ·cases h
 ·rename_i cs q
  split at h
  ·rename_i e' l' hc
   simp only [Xf,Xo] at h
   obtain ⟨rfl,rfl⟩:=h
   exact hb _ (Xj hc)
  ·cases h
 ·cases h
theorem Jv (ρ:Nat→V) (x:SV) (k:Nat) (b:Bool) (e:TypeId) (l:LE):(Z6 x k b e l).den ρ=Zp (x.den ρ) k b e (l.den ρ):=by
 cases x with
 | own x e' l' => cases k <;> rfl
 | box cs =>
  cases k with
  | zero => rfl
  | succ k => simp only [Z6, SV.den, Zp, Uv]; rfl
 | c y => cases y <;> rfl
 | _ => cases k <;> rfl
theorem JK {x:SV} {k n:Nat} {b:Bool} {e:TypeId} {l:LE} (hx:x.bd n) (hl:l.bd n):(Z6 x k b e l).bd n:=by
 unfold Z6
 split
 ·exact hl
 ·intro c hc
  rcases Ue hc with hc | rfl
  ·exact hx c hc
  ·exact hl
 ·exact hx
section
variable {P:Program} {E:Env} {tx:Odr} {tk:Bool} {R:AV→List AV→Prop} {A:Nat→List V→Prop} {ρ:Nat→V} {g:Nat→SV} {o:Oper} {n:Nat} {k:K}
theorem ZqH {x:Operand} (hg:∀ d,(g d).bd n) (htop:∀ i,E.top≤i→g i = .dead) (ho:o.op = .move x) (h:(Yk P E tx tk g o n k).wp P R A ρ):YN tx P R A ρ g o n k:=by
 have plain:(k (Ju P g x) [] [] n).wp P R A ρ→YN tx P R A ρ g o n k:=fun hk=>Z7 hk (ZM hg x) (by rw [Ym];exact Zhm (.inl ho))
 simp only [Yk,ho] at h
 split at h
 ·rename_i t
  have ht:=hg t
  split at h
  ·rename_i vs hv
   rw [hv] at ht
   exact Wy h ht (us1 trivial) (ZjW ho (by rw [hv];rfl))
  ·rename_i b e xs hv
   rw [hv] at ht
   unfold ZfL at h
   split at h
   ·split at h
    ·rename_i hb
     obtain rfl:b=Xb:=by cases b<;>simp_all
     refine plain ?_
     have:Ju P g (.tmp t) = .mref t 0:=by simp only [Ju,hv]
     rw [this]
     exact h
    split at h
    ·rename_i us hus
     obtain ⟨us',rfl,q1,q2,q3⟩:=YA ρ htop (t:=t) hv hus
     exact Wv h ht (Yz hus ht) (by rw [q1];exact Zf7 (.inl ho) (by rw [hv];rfl) q2 q3)
    ·exact h.elim
   ·refine plain ?_
    have:Ju P g (.tmp t)=match b with | true=>.mref t 0 | false=>.c (.slice Xc (P.cellsOf e) xs):=by simp only [Ju,hv];cases b<;>rfl
    rw [this]
    cases b<;>exact h
  ·exact plain h
 ·exact plain h
theorem Zm6 {x:Operand} (hg:∀ d,(g d).bd n) (htop:∀ i,E.top≤i→g i = .dead) (ho:o.op = .assign x) (h:(Yk P E tx tk g o n k).wp P R A ρ):YN tx P R A ρ g o n k:=by
 have plain:(k (Ju P g x) [] [] n).wp P R A ρ→YN tx P R A ρ g o n k:=fun hk=>Z7 hk (ZM hg x) (by rw [Ym];exact Zhm (.inr ho))
 simp only [Yk,ho] at h
 split at h
 ·rename_i t
  have ht:=hg t
  split at h
  ·exact h.elim
  ·rename_i b e xs hv
   rw [hv] at ht
   unfold ZfL at h
   split at h
   ·split at h
    ·rename_i hb
     obtain rfl:b=Xb:=by cases b<;>simp_all
     refine plain ?_
     have:Ju P g (.tmp t) = .mref t 0:=by simp only [Ju,hv]
     rw [this]
     exact h
    split at h
    ·rename_i us hus
     obtain ⟨us',rfl,q1,q2,q3⟩:=YA ρ htop (t:=t) hv hus
     exact Wv h ht (Yz hus ht) (by rw [q1];exact Zf7 (.inr ho) (by rw [hv];rfl) q2 q3)
    ·exact h.elim
   ·refine plain ?_
    have:Ju P g (.tmp t)=match b with | true=>.mref t 0 | false=>.c (.slice Xc (P.cellsOf e) xs):=by simp only [Ju,hv];cases b<;>rfl
    rw [this]
    cases b<;>exact h
  ·exact plain h
 ·split at h
  ·exact Z7 h trivial (ZnY ho)
  ·exact h.elim
 ·exact plain h
theorem Zrw {c a b:Operand} (hg:∀ d,(g d).bd n) (ho:o.op = .pick c a b) (h:(Yk P E tx tk g o n k).wp P R A ρ):YN tx P R A ρ g o n k:=by
 simp only [Yk,ho] at h
 split at h
 ·rename_i v hv
  obtain ⟨h1,h2⟩:=Zhs h
  have hc:=Zi ρ hv
  have hex:=Znb ho hc
  cases hb:v.den ρ with
  | true =>
   rw [hb,if_pos rfl] at hex
   exact Z7 (h1 hb) (ZM hg a) (by rw [Ym];exact hex)
  | false =>
   rw [hb,if_neg (by simp)] at hex
   exact Z7 (h2 hb) (ZM hg b) (by rw [Ym];exact hex)
 ·exact h.elim
theorem Zo7 {T:TypeId} (ho:o.op = .alloc T) (h:(Yk P E tx tk g o n k).wp P R A ρ):YN tx P R A ρ g o n k:=by
 simp only [Yk,ho] at h
 split at h
 ·rename_i cs hcs
  obtain ⟨i,z,h1,h2,h3,h4⟩:=ZoV ρ n hcs
  exact Z7 h h4 (Zks ho h1 h2 h3)
 ·exact h.elim
theorem Zr0 {T:TypeId} {x:Operand} (hg:∀ d,(g d).bd n) (ho:o.op = .box T x) (h:(Yk P E tx tk g o n k).wp P R A ρ):YN tx P R A ρ g o n k:=by
 simp only [Yk,ho] at h
 split at h
 ·rename_i cs hcs
  refine Z7 h (fun c hc=>?_) ?_
  ·obtain ⟨y,hy,rfl⟩:=Xm.1 hc
   exact ZaI hcs (ZM hg x) y hy
  ·have hd:=VU ρ hcs
   have:=ZpE ho (Ym P g ρ x).symm hd
   have he:((SV.box (cs.map .c)).den ρ) = .box (cs.map (SC.den ρ)):=by simp only [SV.den,Uf];rfl
   rw [he]
   exact this
 ·exact h.elim
theorem Zf9 (parts:Array (Nat×Operand)):(parts.toList.map fun p=>(p.1,Zt P (fun d=>(g d).den ρ) p.2))=(parts.toList.map fun p=>(p.1,Ju P g p.2)).map fun p=>(p.1,p.2.den ρ):=by
 rw [Uf]
 refine UO fun p _=>?_
 simp only [Function.comp,Ym]
theorem ZjI (hg:∀ d,(g d).bd n) (parts:Array (Nat×Operand)):∀ p∈(parts.toList.map fun p=>(p.1,Ju P g p.2)),p.2.bd n:=by
 intro p hp
 obtain ⟨q,_,rfl⟩:=Xm.1 hp
 exact ZM hg q.2
theorem ZhY {T:TypeId} {parts:Array (Nat×Operand)} {f t:Nat} {e:TypeId} {l:LE} (hg:∀ d,(g d).bd n) (htop:∀ i,E.top≤i→g i = .dead) (ho:o.op = .build T parts) (hp:ZhV g parts.toList=Xa (f,t,e,l)) (h:(Ze6 P E tx g T f t e l n k).wp P R A ρ):YN tx P R A ρ g o n k:=by
 have hparts:parts.toList = [(f,.tmp t)]∧g t = .own Xb e l:=by
  unfold ZhV at hp
  split at hp
  ·split at hp
   ·rename_i h1 _ _ _ h2
    simp only [Xf,Xo] at hp
    obtain ⟨rfl,rfl,rfl,rfl⟩:=hp
    exact ⟨h1,h2⟩
   ·cases hp
  ·cases hp
 obtain ⟨hp1,ht⟩:=hparts
 have hbl:=hg t
 rw [ht] at hbl
 unfold Ze6 at h
 split at h
 ·rename_i fs i hT hi
  split at h
  ·rename_i hall
   split at h
   ·rename_i z fd hz hfd
    split at h
    ·rename_i zc us hzc hus
     split at h
     ·rename_i hh
      have h1:=KL ρ z.cells.toList
      rw [hzc] at h1
      have hz1:Za8 z.cells.toList=Xa (zc.map (SC.den ρ)):=h1.symm
      obtain ⟨us',rfl,q1,q2,q3⟩:=YA ρ htop (t:=t) ht hus
      refine Wv h (fun c hc=>?_) (Yz hus hbl) ?_
      ·rcases Ue hc with hc | rfl
       ·obtain ⟨y,hy,rfl⟩:=Xm.1 hc
        exact V9 hzc y hy
       ·exact hbl
      ·have hod:Yw tx (fun d=>(g d).den ρ) t (us.tail.map fun u=>(u.1,u.2.den ρ)):=by
        rcases q2 with ⟨h0,_⟩ | q2
        ·cases h0
        ·exact q2
       have:=ZdW (zc:=zc.map (SC.den ρ)) ho hp1 hT hi hz hz1 hall hfd hh.1 (by simpa using hh.2) (show (fun d=>(g d).den ρ) t = .own Xb e (l.den ρ) by show (g t).den ρ=_;rw [ht];rfl) hod
       rw [q1]
       have he:(SV.aggo ((zc.map .c).set fd.offset (.own Xb e l))).den ρ = .aggo ((zc.map (SC.den ρ)).set fd.offset (.own Xb e (l.den ρ))):=by
        simp only [SV.den,Uv,Uf]
        rfl
       rw [he]
       exact this
     ·exact h.elim
    ·exact h.elim
   ·exact h.elim
  ·exact h.elim
 ·exact h.elim
theorem ZnJ {T:TypeId} {parts:Array (Nat×Operand)} (hg:∀ d,(g d).bd n) (htop:∀ i,E.top≤i→g i = .dead) (ho:o.op = .build T parts) (h:(Yk P E tx tk g o n k).wp P R A ρ):YN tx P R A ρ g o n k:=by
 simp only [Yk,ho] at h
 split at h
 ·rename_i f t e l hp
  exact ZhY hg htop ho hp h
 split at h
 ·rename_i fs i hT hi
  split at h
  ·rename_i hall
   split at h
   ·rename_i z hz
    split at h
    ·rename_i zc hzc
     split at h
     ·rename_i cs hcs
      refine Z7 h (Zff _ _ _ _ (V9 hzc) (ZjI hg parts) hcs) ?_
      have h1:=KL ρ z.cells.toList
      rw [hzc] at h1
      refine Zkm ho hT hi hz h1.symm hall ?_
      rw [Zf9]
      exact ZcN ρ _ _ _ _ hcs
     ·exact h.elim
    ·exact h.elim
   ·exact h.elim
  ·exact h.elim
 ·exact h.elim
theorem V2 {w:World} {lim:Nat→Nat} {f g:Bool} {s s':Nat} {v:Value} (hg:g=Xb→f=Xb) (h:Rep w lim (.slice f s []) v):Rep w lim (.slice g s' []) v:=by
 have key:∀ (y:AV),Rep w lim y v→y = .slice f s []→Rep w lim (.slice g s' []) v:=by
  intro y hy hye
  cases hy with
  | sliceN => exact .sliceN
  | @sliceE f' s2 a cap hf =>
   injection hye with h1 h2 h3
   exact .sliceE fun h=>hf (h1.trans (hg h))
  | @sliceC f' s2 xs b o cap us hs hc hf hle hlim hus hcell hr =>
   injection hye with h1 h2 h3
   subst h3
   exact .sliceE fun h=>by have:=hf (h1.trans (hg h));simpa using this
  | val _ => cases hye
  | agg _ _ _ => cases hye
  | nest => cases hye
 exact key _ h rfl
theorem Zik {w:World} {lim:Nat→Nat} {f:Bool} {s:Nat} {xs:List (List AV)} {v:Value} (h:Rep w lim (.slice f s xs) v):Rep w lim (.slice Xc s xs) v:=by
 have key:∀ (y:AV),Rep w lim y v→y = .slice f s xs→Rep w lim (.slice Xc s xs) v:=by
  intro y hy hye
  cases hy with
  | sliceN => injection hye with h1 h2 h3; subst h3; exact .sliceN
  | @sliceE f' s2 a cap hf => injection hye with h1 h2 h3; subst h3; exact .sliceE fun h => by cases h
  | @sliceC f' s2 xs b o cap us hs hc hf hle hlim hus hcell hr =>
   injection hye with h1 h2 h3
   subst h2
   subst h3
   exact .sliceC hs hc (fun h=>by cases h) hle hlim hus hcell hr
  | val _ => cases hye
  | agg _ _ _ => cases hye
  | nest => cases hye
 exact key _ h rfl
theorem ZnX (ρ:Nat→V) {s:Sh} {c c':SC} (h:Zl8 s c=Xa c'):∀ (w:World) (lim:Nat→Nat) (u:Value),Rep w lim (c.den ρ) u→Rep w lim (c'.den ρ) u:=by
 unfold Zl8 at h
 split at h
 ·split at h
  ·simp only [Xf] at h
   subst h
   rename_i hk
   subst hk
   exact fun w lim u hr=>Zik hr
  ·split at h
   ·simp only [Xf] at h
    subst h
    exact fun w lim u hr=>V2 (fun h=>by cases h) hr
   ·cases h
 ·simp only [Xf] at h
  subst h
  exact fun _ _ _ h=>h
theorem Zpf {n:Nat} {s:Sh} {c c':SC} (h:Zl8 s c=Xa c') (hb:c.bd n):c'.bd n:=by
 unfold Zl8 at h
 split at h
 ·split at h
  ·simp only [Xf] at h
   subst h
   exact hb
  ·split at h
   ·simp only [Xf] at h
    subst h
    trivial
   ·cases h
 ·simp only [Xf] at h
  subst h
  exact hb
theorem Va {n:Nat} : ∀ (l:List Sh) (cs cs':List SC),Y5 l cs=Xa cs'→(∀ c∈cs,c.bd n)→∀ c∈cs',c.bd n
 | [], [], _, h, _ => by simp only [Y5, Xf] at h; subst h; simp
 | [], _ :: _, _, h, _ => by simp [Y5] at h
 | _ :: _, [], _, h, _ => by simp [Y5] at h
 | s :: ss, c :: cs, r, h, hb => by
  simp only [Y5] at h
  split at h
  ·rename_i v vs hv hvs
   simp only [Xf] at h
   subst h
   intro x hx
   rcases Xu.1 hx with rfl | hx
   ·exact Zpf hv (hb c (by simp))
   ·exact Va ss cs vs hvs (fun y hy=>hb y (by simp [hy])) x hx
  ·cases h
theorem ZfY (ρ:Nat→V):∀ (l:List Sh) (cs cs':List SC),Y5 l cs=Xa cs'→cs'.length=cs.length∧∀ (i:Nat) (c:SC),cs'[i]? = Xa c→∃ c0,cs[i]? = Xa c0∧∀ (w:World) (lim:Nat→Nat) (u:Value),Rep w lim (c0.den ρ) u→Rep w lim (c.den ρ) u
 | [], [], _, h => by simp only [Y5, Xf] at h; subst h; exact ⟨rfl, by simp⟩
 | [], _ :: _, _, h => by simp [Y5] at h
 | _ :: _, [], _, h => by simp [Y5] at h
 | s :: ss, c :: cs, r, h => by
  simp only [Y5] at h
  split at h
  ·rename_i v vs hv hvs
   simp only [Xf] at h
   subst h
   obtain ⟨h1,h2⟩:=ZfY ρ ss cs vs hvs
   refine ⟨by simp [h1],fun i x hx=>?_⟩
   cases i with
   | zero =>
    simp only [XK,Xf] at hx
    subst hx
    exact ⟨c,rfl,ZnX ρ hv⟩
   | succ i => exact h2 i x (by simpa using hx)
  ·cases h
theorem VQ (ρ:Nat→V) (l:List Sh) (cs cs':List SC) (h:Y5 l cs=Xa cs'):(cs'.map (SC.den ρ)).length=(cs.map (SC.den ρ)).length∧
  ∀ (w:World) (lim:Nat→Nat) (us:List Value),YC w lim (cs.map (SC.den ρ)) us→YC w lim (cs'.map (SC.den ρ)) us:=by
 obtain ⟨h1,h2⟩:=ZfY ρ l cs cs' h
 refine ⟨by simp [h1],fun w lim us hr=>⟨by rw [← hr.1];simp [h1],fun x hx=>?_,fun i x u hx hu=>?_⟩⟩
 ·obtain ⟨y,_,rfl⟩:=Xm.1 hx
  exact ZjX ρ y
 ·rw [Xl] at hx
  cases hc:cs'[i]? with
  | none => rw [hc] at hx; cases hx
  | some c =>
   rw [hc] at hx
   simp only [Xv,Xf] at hx
   subst hx
   obtain ⟨c0,g1,g2⟩:=h2 i c hc
   exact g2 w lim u (hr.2.2 i _ u (by rw [Xl,g1];rfl) hu)
theorem ZhK (ρ:Nat→V) (s:Sh) (c:SC):(∀ n,c.bd n→(ZrN s c).bd n)∧((c.den ρ).isCell=Xb→((ZrN s c).den ρ).isCell=Xb)∧∀ (w:World) (lim:Nat→Nat) (u:Value),Rep w lim (c.den ρ) u→Rep w lim ((ZrN s c).den ρ) u:=by
 unfold ZrN
 split
 ·exact ⟨fun _ h=>h,fun _=>rfl,fun w lim u h=>V2 (fun h=>h) h⟩
 ·exact ⟨fun _ h=>h,fun h=>h,fun _ _ _ h=>h⟩
theorem ZhC (ρ:Nat→V):∀ (l:List Sh) (cs:List SC),(Zo4 l cs).length=cs.length∧∀ (i:Nat) (c:SC),(Zo4 l cs)[i]? = Xa c→∃ c0 s,cs[i]? = Xa c0∧(c=c0∨c=ZrN s c0)
 | [], cs => by cases cs <;> exact ⟨rfl, fun i c h => ⟨c, .bool, h, .inl rfl⟩⟩
 | s :: ss, [] => ⟨rfl, fun i c h => by simp [Zo4] at h⟩
 | s :: ss, c :: cs => by
  obtain ⟨h1,h2⟩:=ZhC ρ ss cs
  refine ⟨by simp [Zo4,h1],fun i x hx=>?_⟩
  cases i with
  | zero =>
   simp only [Zo4,XK,Xf] at hx
   exact ⟨c,s,rfl,.inr hx.symm⟩
  | succ i => exact h2 i x (by simpa [Zo4] using hx)
theorem ZsR {n:Nat} (P:Program) (T:TypeId) {vc:List SC} (h:∀ c∈vc,c.bd n):∀ c∈nrm P T vc,c.bd n:=by
 unfold nrm
 split
 ·rename_i sh _
  intro c hc
  obtain ⟨i,hi⟩:=XU.1 hc
  obtain ⟨c0,s,h0,e | e⟩:=(ZhC (fun _=>.i 0) sh vc).2 i c hi
  ·rw [e];exact h c0 (Xj h0)
  ·rw [e];exact (ZhK (fun _=>.i 0) s c0).1 n (h c0 (Xj h0))
 ·exact h
theorem Zsz (ρ:Nat→V) (P:Program) (T:TypeId) (vc:List SC):((nrm P T vc).map (SC.den ρ)).length=(vc.map (SC.den ρ)).length∧
  ∀ (w:World) (lim:Nat→Nat) (us:List Value),YC w lim (vc.map (SC.den ρ)) us→YC w lim ((nrm P T vc).map (SC.den ρ)) us:=by
 unfold nrm
 split
 ·rename_i sh _
  obtain ⟨h1,h2⟩:=ZhC ρ sh vc
  have hat:∀ (i:Nat) (x:AV),((Zo4 sh vc).map (SC.den ρ))[i]? = Xa x→∃ x0,(vc.map (SC.den ρ))[i]? = Xa x0∧(x0.isCell=Xb→x.isCell=Xb)∧∀ (w:World) (lim:Nat→Nat) (u:Value),Rep w lim x0 u→Rep w lim x u:=by
   intro i x hx
   rw [Xl] at hx
   obtain ⟨c,hc,rfl⟩:=X9.1 hx
   obtain ⟨c0,s,h0,e | e⟩:=h2 i c hc
   ·subst e
    exact ⟨_,by rw [Xl,h0];rfl,fun h=>h,fun _ _ _ h=>h⟩
   ·subst e
    exact ⟨_,by rw [Xl,h0];rfl,(ZhK ρ s c0).2.1,(ZhK ρ s c0).2.2⟩
  refine ⟨by simp [h1],fun w lim us hr=>⟨by rw [← hr.1];simp [h1],fun x hx=>?_,fun i x u hx hu=>?_⟩⟩
  ·obtain ⟨i,hi⟩:=XU.1 hx
   obtain ⟨x0,h0,h3,_⟩:=hat i x hi
   exact h3 (hr.2.1 x0 (Xj h0))
  ·obtain ⟨x0,h0,_,h4⟩:=hat i x hx
   exact h4 w lim u (hr.2.2 i x0 u h0 hu)
 ·exact ⟨rfl,fun _ _ _ h=>h⟩
theorem ZhH (o:BC) (x:SC):Zoh o x = .c x∨∃ e s,Zoh o x = .own Xb e .nil∧x = .slice Xb s .nil:=by
 unfold Zoh
 split
 ·exact .inr ⟨_,_,rfl,rfl⟩
 ·exact .inl rfl
theorem Zef:∀ (os:List BC) (xs:List SC),(Y1 os xs).length=xs.length
 | [], xs => by simp [Y1]
 | _ :: _, [] => rfl
 | _ :: os, _ :: xs => by simp [Y1, Zef os xs]
theorem W5:∀ (os:List BC) (xs:List SC) (i:Nat) (y:BC),(Y1 os xs)[i]? = Xa y→∃ x,xs[i]? = Xa x∧(y = .c x∨∃ e s,y = .own Xb e .nil∧x = .slice Xb s .nil)
 | [], xs, i, y, h => by
  simp only [Y1,Xl] at h
  obtain ⟨x,hx,rfl⟩:=X9.1 h
  exact ⟨x,hx,.inl rfl⟩
 | _ :: _, [], i, y, h => by simp [Y1] at h
 | o :: _, x :: _, 0, y, h => by
  simp only [Y1,XK,Xf] at h
  subst h
  exact ⟨x,rfl,ZhH o x⟩
 | o :: os, x :: xs, i + 1, y, h => by
  simp only [Y1,Ul] at h
  obtain ⟨x',h1,h2⟩:=W5 os xs i y h
  exact ⟨x',by simpa using h1,h2⟩
theorem ZlI {n:Nat} (os:List BC) (xs:List SC) (h:∀ c∈xs,c.bd n):∀ c∈Y1 os xs,c.bd n:=by
 intro c hc
 obtain ⟨i,hi⟩:=XU.1 hc
 obtain ⟨x,h1,rfl | ⟨e,s,rfl,rfl⟩⟩:=W5 os xs i c hi
 ·exact h x (Xj h1)
 ·trivial
theorem Zra {P:Program} (ρ:Nat→V) (os:List BC) {vc0:List AV} {xs:List SC}
  (h:(xs.map (SC.den ρ)).length=vc0.length∧∀ (w:World) (lim:Nat→Nat) (us:List Value),YC w lim vc0 us→YC w lim (xs.map (SC.den ρ)) us) :
  ((Y1 os xs).map (BC.den ρ)).length=vc0.length∧∀ (w:World) (lim:Nat→Nat) (us:List Value),YC w lim vc0 us→
   (∀ z∈(Y1 os xs).map (BC.den ρ),Zbe z)∧∀ (j:Nat) (z:AV) (u:Value),((Y1 os xs).map (BC.den ρ))[j]? = Xa z→us[j]? = Xa u→J9 P w lim Xe z u:=by
 refine ⟨by rw [Xi,Zef,← h.1,Xi],fun w lim us hr=>?_⟩
 have hr:=h.2 w lim us hr
 refine ⟨fun z hz=>?_,fun j z u hz hu=>?_⟩
 ·obtain ⟨y,hy,rfl⟩:=Xm.1 hz
  obtain ⟨i,hi⟩:=XU.1 hy
  obtain ⟨x,h1,rfl | ⟨e,s,rfl,rfl⟩⟩:=W5 os xs i y hi
  ·exact .inl (hr.2.1 _ (Xm.2 ⟨x,Xj h1,rfl⟩))
  ·exact .inr (.inl ⟨_,_,_,rfl⟩)
 ·rw [Xl] at hz
  obtain ⟨y,hy,rfl⟩:=X9.1 hz
  obtain ⟨x,h1,he⟩:=W5 os xs j y hy
  have hx:(xs.map (SC.den ρ))[j]? = Xa (x.den ρ):=by rw [Xl,h1];rfl
  have hc:=hr.2.1 _ (Xj hx)
  have hrep:=hr.2.2 j _ u hx hu
  rcases he with rfl | ⟨e,s,rfl,rfl⟩
  ·show J9 P w lim Xe (x.den ρ) u
   cases hxd:x.den ρ<;>rw [hxd] at hc hrep<;>simp [AV.isCell] at hc<;>exact hrep
  ·exact Zan (s:=s) hrep
theorem Ziu {g:Nat→SV} {len:Nat} {ps:List (Nat×Operand)} {t:Nat} {cs:List BC} (h:Zfr g len ps=Xa (t,cs)):len=1∧ps = [(0,.tmp t)]∧g t = .aggo cs:=by
 unfold Zfr at h
 split at h
 ·rename_i t'
  split at h
  ·rename_i cs' hc
   simp only [Xf,Xo] at h
   obtain ⟨rfl,rfl⟩:=h
   exact ⟨rfl,rfl,hc⟩
  ·cases h
 ·cases h
theorem ZnS {c:BC} (ρ:Nat→V) (h:Zl7 P c=Xb):ZqJ P (c.den ρ):=by
 cases c with
 | c x => cases x <;> exact .inl ⟨rfl, rfl⟩
 | own x e l =>
  cases x with
  | true => exact .inr ⟨e, _, rfl, by simpa [Zl7] using h⟩
  | false => cases h
 | gone => cases h
theorem ZcM (ρ:Nat→V):∀ (cs:List BC) (pre:List AV) (l:LE),(∀ c∈cs,Zl7 P c=Xb)→l.den ρ = [pre++(cs.map (ZkO P)).map (SC.den ρ)]→(ZhQ P cs pre.length l).den ρ = [pre++(cs.map (BC.den ρ)).map (ZmN P)]
 | [], pre, l, _, h => by show l.den ρ = _; simpa using h
 | c :: cs, pre, l, hok, h => by
  have hc:=hok c (by simp)
  have hcs:=fun c' h'=>hok c' (UC c h')
  cases c with
  | c x =>
   have ih:=ZcM ρ cs (pre++[x.den ρ]) l hcs (by rw [h];simp [ZkO])
   rw [Xr,List.length_singleton] at ih
   show (ZhQ P cs (pre.length+1) l).den ρ=_
   rw [ih]
   have:ZmN P (x.den ρ)=x.den ρ:=by cases x<;>rfl
   simp [BC.den,this]
  | own x e ys =>
   cases x with
   | false => cases hc
   | true =>
    have ih:=ZcM ρ cs (pre++[.nest (P.cellsOf e) Xb e (ys.den ρ)]) (.fn (.dput pre.length (P.cellsOf e) Xb e) l (.lit 0) ys .nil) hcs (by
     show lop (.dput pre.length (P.cellsOf e) Xb e) (l.den ρ) 0 (ys.den ρ) []=_
     rw [h]
     simp [lop,Jj,Zq,setCells,ZkO])
    rw [Xr,List.length_singleton] at ih
    show (ZhQ P cs (pre.length+1) _).den ρ=_
    rw [ih]
    simp [BC.den,ZmN]
  | gone => cases hc
theorem Zpj (ρ:Nat→V) (cs:List BC) (h:∀ c∈cs,Zl7 P c=Xb):(Ztr P cs).den ρ = [(cs.map (BC.den ρ)).map (ZmN P)]:=by
 have:=ZcM ρ cs [] (.snoc .nil (Zhq (cs.map (ZkO P)))) h (by
  show ([] : List (List AV))++[(Zhq (cs.map (ZkO P))).den ρ]=_
  rw [Vf];simp)
 simpa [Ztr] using this
theorem ZbT {n:Nat} : ∀ (cs:List BC) (j:Nat) (l:LE),(∀ c∈cs,c.bd n)→l.bd n→(ZhQ P cs j l).bd n
 | [], _, _, _, h => h
 | .c x :: cs, j, l, hb, h => ZbT cs (j + 1) l (fun c hc => hb c (UC _ hc)) h
 | .gone :: cs, j, l, hb, h => ZbT cs (j + 1) l (fun c hc => hb c (UC _ hc)) h
 | .own x e ys :: cs, j, l, hb, h => ZbT cs (j + 1) _ (fun c hc => hb c (UC _ hc)) ⟨h, trivial, hb (.own x e ys) (by simp), trivial⟩
theorem Zfw {T:TypeId} {len:Nat} {parts:Array (Nat×Operand)} (hg:∀ d,(g d).bd n) (ho:o.op = .buildSlice T len parts) (h:(Yk P E tx tk g o n k).wp P R A ρ):YN tx P R A ρ g o n k:=by
 simp only [Yk,ho] at h
 split at h
 ·rename_i t cs hap
  obtain ⟨rfl,hps,hgt⟩:=Ziu hap
  unfold ZgE at h
  split at h
  case h_2=>exact h.elim
  rename_i e hT
  split at h
  case h_2=>exact h.elim
  rename_i i hi
  split at h
  case h_2=>exact h.elim
  rename_i z hz
  split at h
  case isFalse=>exact h.elim
  rename_i hh
  obtain ⟨⟨h1,h2,h3⟩,⟨h4,h5⟩,h6,h7⟩:=hh
  rw [XC] at h7
  have hb:∀ c∈cs,c.bd n:=by have:=hg t;rw [hgt] at this;exact this
  refine Wy h (ZbT cs 0 _ hb ⟨trivial,WR _ fun c hc=>?_⟩) (us1 trivial) ?_
  ·obtain ⟨c0,hc0,rfl⟩:=Xm.1 hc
   have:=hb c0 hc0
   cases c0 with
   | c x => exact this
   | own x e ys => trivial
   | gone => trivial
  ·have:=Zcl (P:=P) (o:=o) (σ:=fun d=>(g d).den ρ) (cs:=cs.map (BC.den ρ)) ho hps hT hi hz h1 h2 h3 h4 h5 (show (g t).den ρ=_ by rw [hgt];rfl) (by rw [Xi];exact h6) (fun c hc=>by
    obtain ⟨c0,hc0,rfl⟩:=Xm.1 hc
    exact ZnS ρ (h7 c0 hc0))
   rw [← Zpj ρ cs h7] at this
   exact this
 split at h
 ·rename_i e hT
  split at h
  ·rename_i i hi
   split at h
   ·rename_i z hz
    split at h
    ·rename_i zc hzc
     split at h
     ·rename_i hh
      split at h
      ·rename_i cs sh hcs hsh
       split at h
       ·rename_i cs' hcs'
        have hb:∀ c∈cs,c.bd n:=Zff _ _ _ _ (fun c hc=>by
         obtain ⟨l,hl,hc⟩:=List.mem_flatten.1 hc
         rw [(UG.1 hl).2] at hc
         exact V9 hzc c hc) (ZjI hg parts) hcs
        refine Z7 h (x:=.own _ e _) (ZpK _ _ (Va _ _ _ hcs' hb) _) ?_
        have h1:=KL ρ z.cells.toList
        rw [hzc] at h1
        have h2:=ZcN ρ _ _ _ _ hcs
        rw [← Zf9,List.map_flatten,List.map_replicate] at h2
        have:=ZcT (E.exO o) ho hT hi hz h1.symm hh.1 hh.2.1 hh.2.2.1 hh.2.2.2 h2 (VQ ρ _ _ _ hcs')
        rw [← Zl1] at this
        exact this
       ·exact h.elim
      ·exact h.elim
     ·exact h.elim
    ·exact h.elim
   ·exact h.elim
  ·exact h.elim
 ·exact h.elim
theorem Zi6 (ρ:Nat→V) (x:SC):YM P (x.den ρ)=x.den ρ:=by cases x<;>rfl
theorem ZgB {a:Operand} {p:Nat×Nat×TypeId×LE×IE×Nat×Nat} (h:Zen P g a=Xa p):∃ d q e l i s off,p=(d,q,e,l,i,s,off)∧Ju P g a = .eref d q i s off∧Jd (g d) q=Xa (e,l)∧Zg P e=Xb:=by
 unfold Zen at h
 split at h
 ·rename_i d q i s off ha
  split at h
  ·rename_i e l hp
   split at h
   ·rename_i hd
    simp only [Xf] at h
    exact ⟨d,q,e,l,i,s,off,h.symm,ha,hp,hd⟩
   ·cases h
  ·cases h
 ·cases h
theorem KH:∀ (l:List Sh) (n:Nat),(ZF l n).length=l.length
 | [], _ => rfl
 | s :: l, n => by simp only [ZF, XN, KH l]
theorem ZjH {xs:List (List AV)} {i off m:Nat} {c:List AV} (h:(Zdx (JZ xs i off m) off m)[i]? = Xa c) (hc:c.length=m):∃ row,xs[i]? = Xa row∧c=((row.drop off).take m).map Zbi∧(0 < m→off+m≤row.length):=by
 unfold Zdx JZ at h
 rw [Xl,List.getElem?_modify] at h
 cases hr:xs[i]? with
 | none => rw [hr] at h; cases h
 | some row =>
  rw [hr] at h
  simp only [Option.map_eq_map,Xv,Xf,↓reduceIte] at h
  refine ⟨row,rfl,?_,?_⟩
  ·rcases XD off row.length with hlt | hge
   ·have hl:(row.take off).length=off:=by rw [Xt];omega
    rw [Xw,List.drop_append_of_le_length (by omega),UQ (by omega),List.nil_append] at h
    have hm:(List.map Zbi (List.take m (List.drop off row))).length≤m:=by simp;omega
    rcases XD (row.length-off) m with h1 | h1
    ·have hd:row.drop (off+m) = []:=UQ (by omega)
     rw [hd,Us] at h
     rw [← h,UA hm]
    ·have hm':(List.map Zbi (List.take m (List.drop off row))).length=m:=by simp;omega
     rw [List.take_append_of_le_length (by omega),UA (by omega)] at h
     exact h.symm
   ·have hd:row.drop off = []:=UQ hge
    rw [hd,List.take_nil,XL,Us,UA hge,UQ (show row.length≤off+m by omega),Us,hd,List.take_nil] at h
    rw [← h,hd,List.take_nil,XL]
  ·intro hm
   rw [← h] at hc
   simp only [Xt,List.length_drop,Xr,Xi] at hc
   omega
theorem Zew {T:TypeId} {a:Operand} {agg:Bool} {d q:Nat} {e:TypeId} {l:LE} {i:IE} {off:Nat} (hg:∀ d,(g d).bd n) (ho:o.op = .load T a) (ha:Ju P g a = .eref d q i (P.cellsOf (bT e)) off) (hp:Jd (g d) q=Xa (e,l)) (hdp:Zg P e=Xb) (hfit:off+P.cellsOf T≤P.cellsOf (bT e)) (h0:0 < P.cellsOf T)
  (hng:(g d).isG=Xc) (hT:Z2 P T=Xa agg) (h:(ZfD P g T agg d q e l i off n k).wp P R A ρ):YN tx P R A ρ g o n k:=by
 unfold ZfD at h
 split at h
 case h_2=>exact h.elim
 rename_i sh hsh
 split at h
 case isFalse=>exact h.elim
 rename_i hl
 obtain ⟨hl,hag⟩:=hl
 obtain ⟨vs,w1,w2,w3⟩:=h
 have hbl:=Jy hp (hg d)
 have hbi:=ZM (P:=P) hg a
 rw [ha] at hbi
 have hbi:i.bd n:=hbi
 obtain ⟨row,r1,r2,r3⟩:=ZjH w2 (by rw [Xi,KH,hl])
 have r3:=r3 h0
 have hat:=ZQ ρ hp
 have hbd:=JA sh n
 have hle:n≤n+sh.length:=XX _ _
 have hld:∀ x:LE,x.bd n→x.den (bind ρ n vs)=x.den ρ:=fun x hx=>LE.den_congr (YG ρ n vs) x hx
 have hlb:(LE.fn (.dfz1 off (P.cellsOf T)) l i .nil .nil).bd n:=⟨hbl,hbi,trivial,trivial⟩
 have hup:((Z6 (g d) q Xb e (.fn (.dfz1 off (P.cellsOf T)) l i .nil .nil)).den (bind ρ n vs))=Zp ((g d).den ρ) q Xb e (JZ (l.den ρ) (i.den ρ).toNat off (P.cellsOf T)):=by
  rw [Jv,SV.den_congr (YG ρ n vs) (g d) (hg d),hld _ hlb]
  rfl
 refine ⟨bind ρ n vs,n+sh.length,_,_,[d],hle,YG ρ n vs,?_,?_,w3,?_⟩
 ·cases agg with
  | true => exact hbd
  | false =>
   show SV.bd _ (match ZF sh n with | [x]=>.c x | _=>.dead)
   split
   ·rename_i x hx;exact hbd x (by rw [hx];simp)
   ·trivial
 ·intro u hu
  rw [XH] at hu
  subst hu
  exact SV.bd_mono hle _ (JK (hg d) hlb)
 ·rw [Xk,XL]
  show Kc tx P o _ _ [(d,(Z6 (g d) q Xb e (.fn (.dfz1 off (P.cellsOf T)) l i .nil .nil)).den (bind ρ n vs))] [d]
  rw [hup]
  cases agg with
  | true =>
   have:=W8 ho hT (Zi ρ ha) (show Zr ((fun d=>(g d).den ρ) d) q=_ from hat) (Kb ρ hng) r1 hfit hdp
   rw [← r2] at this
   exact this.t
  | false =>
   have hl1:sh.length=1:=by rcases hag with h | h;cases h;exact h
   obtain ⟨s1,rfl⟩:=List.length_eq_one_iff.1 hl1
   have hT1:P.cellsOf T=1:=by rw [← hl];rfl
   rw [hT1] at r2 r3 hfit ⊢
   obtain ⟨x,hx⟩:∃ x,row[off]? = Xa x:=⟨row[off]'(by omega),Xq (by omega)⟩
   have e1:(row.drop off).take 1 = [x]:=by rw [List.take_one,List.head?_drop,hx];rfl
   rw [e1] at r2
   have:=WJ ho hT (Zi ρ ha) (show Zr ((fun d=>(g d).den ρ) d) q=_ from hat) (Kb ρ hng) r1 hx hfit hdp
   simp only [ZF,Xk,XL,List.cons.injEq,and_true] at r2
   rw [← r2] at this
   exact this.t
theorem Zgz {xs:List (List AV)} {i:Int} {o' s:Nat} {e:TypeId} (h:qop (.nst o' s e) xs i=Xb):∃ row ys,xs[i.toNat]? = Xa row∧row[o']? = Xa (.nest s Xb e ys)∧Yi xs i.toNat o'=ys:=by
 simp only [qop] at h
 cases hr:xs[i.toNat]? with
 | none => rw [hr] at h; cases h
 | some row =>
  rw [hr] at h
  simp only [Tm] at h
  split at h
  ·rename_i s' e' ys hz
   simp only [Xx,beq_iff_eq] at h
   obtain ⟨rfl,rfl⟩:=h
   exact ⟨row,ys,rfl,hz,by simp only [Yi,hr,Tm,hz]⟩
  ·cases h
theorem Vx {l:LE} {i:IE} : ∀ (cs:List BC) (j:Nat) {t:STree},(ZbM P l i cs j t).wp P R A ρ→t.wp P R A ρ∧∀ (k:Nat) (x:Bool) (e:TypeId) (v:LE),cs[k]? = Xa (.own x e v)→qop (.nst (j+k) (P.cellsOf e) e) (l.den ρ) (i.den ρ)=Xb
 | [], j, t, h => ⟨h, fun k x e v hk => by simp at hk⟩
 | .own x e v :: cs, j, t, h => by
  obtain ⟨h1,h2⟩:=h
  obtain ⟨g1,g2⟩:=Vx cs (j+1) h2
  refine ⟨g1,fun k x' e' v' hk=>?_⟩
  cases k with
  | zero =>
   simp only [XK,Xf,BC.own.injEq] at hk
   obtain ⟨_,rfl,_⟩:=hk
   exact h1
  | succ k => rw [show j + (k + 1) = j + 1 + k by omega]; exact g2 k x' e' v' (by simpa using hk)
 | .c _ :: cs, j, t, h => by
  obtain ⟨g1,g2⟩:=Vx cs (j+1) h
  refine ⟨g1,fun k x' e' v' hk=>?_⟩
  cases k with
  | zero => simp at hk
  | succ k => rw [show j + (k + 1) = j + 1 + k by omega]; exact g2 k x' e' v' (by simpa using hk)
 | .gone :: cs, j, t, h => by
  obtain ⟨g1,g2⟩:=Vx cs (j+1) h
  refine ⟨g1,fun k x' e' v' hk=>?_⟩
  cases k with
  | zero => simp at hk
  | succ k => rw [show j + (k + 1) = j + 1 + k by omega]; exact g2 k x' e' v' (by simpa using hk)
theorem Zry {z:AV} {v:Value} (h:AV.val v=Zbi z):ZkX z = .val v∧Zr2 z=Xb:=by
 unfold Zbi at h
 split at h
 ·cases h
 ·subst h;exact ⟨rfl,rfl⟩
theorem Zar:∀ (sh:List Sh) (es:List (Option TypeId)) (n:Nat) (cs:List BC),Jg P sh es n=Xa cs→cs.length=sh.length
 | [], es, n, cs, h => by
  simp only [Jg,Xf] at h
  subst h;rfl
 | s :: ss, es, n, cs, h => by
  have other:∀ r,Jg P ss es.tail (n+1)=Xa r→∀ c:BC,cs=c::r→cs.length=(s::ss).length:=fun r hr c hcs=>by
   subst hcs
   rw [XN,XN,Zar ss es.tail (n+1) r hr]
  cases s with
  | slice s =>
   simp only [Jg] at h
   split at h
   ·rename_i e r he hr2
    split at h
    ·simp only [Xf] at h
     exact other r hr2 _ h.symm
    ·cases h
   ·cases h
  | own x e => simp [Jg] at h
  | int k => simp only [Jg] at h; obtain ⟨r, h1, h2⟩ := X9.1 h; exact other r h1 _ h2.symm
  | bool => simp only [Jg] at h; obtain ⟨r, h1, h2⟩ := X9.1 h; exact other r h1 _ h2.symm
  | str => simp only [Jg] at h; obtain ⟨r, h1, h2⟩ := X9.1 h; exact other r h1 _ h2.symm
theorem VO:∀ (sh:List Sh) (es:List (Option TypeId)) (n:Nat) (cs:List BC) (row:List AV),Jg P sh es n=Xa cs→(ZF sh n).map (SC.den ρ)=row.map Zbi→
  (∀ (k:Nat) (x:Bool) (e:TypeId) (v:LE),cs[k]? = Xa (.own x e v)→∃ ys,row[k]? = Xa (.nest (P.cellsOf e) Xb e ys))→cs.map (BC.den ρ)=row.map ZkX∧(∀ z∈row,Zr2 z=Xb)∧∀ c∈cs,c.bd (n+sh.length)
 | [], es, n, cs, row, h, hr, _ => by
  simp only [Jg,Xf] at h
  subst h
  have:row = []:=by
   cases row with
   | nil => rfl
   | cons z r => simp [ZF] at hr
  subst this
  exact ⟨rfl,by simp,by simp⟩
 | s :: ss, es, n, cs, row, h, hr, hn => by
  obtain ⟨z,row',rfl⟩:∃ z row',row=z::row':=by
   cases row with
   | nil => simp [ZF] at hr
   | cons z r => exact ⟨z, r, rfl⟩
  simp only [ZF,Xk,List.cons.injEq] at hr
  obtain ⟨hz,hr⟩:=hr
  have other:∀ r,Jg P ss es.tail (n+1)=Xa r→cs = .c (Jq s n)::r→(∃ v,(Jq s n).den ρ = .val v)→(Jq s n).bd (n+1)→
    cs.map (BC.den ρ)=(z::row').map ZkX∧(∀ z'∈z::row',Zr2 z'=Xb)∧∀ c∈cs,c.bd (n+(s::ss).length):=fun r hr2 hcs ⟨v,hv⟩ hb=>by
   subst hcs
   obtain ⟨g1,g2,g3⟩:=VO ss es.tail (n+1) r row' hr2 hr fun k x e v hk=>by simpa using hn (k+1) x e v (by simpa using hk)
   obtain ⟨q1,q2⟩:=Zry (hv.symm.trans hz)
   refine ⟨?_,?_,fun c hc=>?_⟩
   ·simp only [Xk,g1,q1,BC.den,hv]
   ·intro z' hz'
    rcases Xu.1 hz' with rfl | hz'
    ·exact q2
    ·exact g2 z' hz'
   ·rcases Xu.1 hc with rfl | hc
    ·exact SC.bd_mono (by simp) _ hb
    ·have:=g3 c hc
     rw [XN,show n+(ss.length+1)=n+1+ss.length by omega]
     exact this
  cases s with
  | slice s =>
   simp only [Jg] at h
   split at h
   ·rename_i e r he hr2
    split at h
    ·rename_i hs
     simp only [Xf] at h
     subst h
     obtain ⟨ys,hys⟩:=hn 0 Xb e (.var n) rfl
     simp only [XK,Xf] at hys
     subst hys
     obtain ⟨g1,g2,g3⟩:=VO ss es.tail (n+1) r row' hr2 hr fun k x e v hk=>by simpa using hn (k+1) x e v (by simpa using hk)
     refine ⟨?_,?_,fun c hc=>?_⟩
     ·simp only [Xk,g1]
      have hz':AV.slice Xc s ((ρ n).list) = .slice Xc (P.cellsOf e) ys:=hz
      cases hz'
      rfl
     ·intro z' hz'
      rcases Xu.1 hz' with rfl | hz'
      ·rfl
      ·exact g2 z' hz'
     ·rcases Xu.1 hc with rfl | hc
      ·show n < n+(ss.length+1)
       omega
      ·have:=g3 c hc
       rw [XN,show n+(ss.length+1)=n+1+ss.length by omega]
       exact this
    ·cases h
   ·cases h
  | own x e => simp [Jg] at h
  | int k =>
   simp only [Jg] at h
   obtain ⟨r,h1,h2⟩:=X9.1 h
   exact other r h1 h2.symm ⟨_,rfl⟩ (Uu n)
  | bool =>
   simp only [Jg] at h
   obtain ⟨r,h1,h2⟩:=X9.1 h
   exact other r h1 h2.symm ⟨_,rfl⟩ (Uu n)
  | str =>
   simp only [Jg] at h
   obtain ⟨r,h1,h2⟩:=X9.1 h
   exact other r h1 h2.symm ⟨_,rfl⟩ (Uu n)
theorem ZhF {T:TypeId} {a:Operand} {d q:Nat} {e:TypeId} {l:LE} {i:IE} (hg:∀ d,(g d).bd n) (ho:o.op = .load T a) (ha:Ju P g a = .eref d q i (P.cellsOf (bT e)) 0) (hp:Jd (g d) q=Xa (e,l)) (hdp:Zg P e=Xb) (h0:0 < P.cellsOf T)
  (hng:(g d).isG=Xc) (hT:Z2 P T=Xa Xb) (h:(Zfo P g T d q e l i n k).wp P R A ρ):YN tx P R A ρ g o n k:=by
 unfold Zfo at h
 split at h
 case h_2=>exact h.elim
 rename_i sh hsh
 split at h
 case h_2=>exact h.elim
 rename_i cs hcs
 split at h
 case isFalse=>exact h.elim
 rename_i hl
 obtain ⟨hl,hTe⟩:=hl
 obtain ⟨h,hnq⟩:=Vx cs 0 h
 obtain ⟨vs,w1,w2,w3⟩:=h
 have hbl:=Jy hp (hg d)
 have hbi:=ZM (P:=P) hg a
 rw [ha] at hbi
 have hbi:i.bd n:=hbi
 obtain ⟨row,r1,r2,r3⟩:=ZjH w2 (by rw [Xi,KH,hl])
 have hat:=ZQ ρ hp
 have hle:n≤n+sh.length:=XX _ _
 have hld:∀ x:LE,x.bd n→x.den (bind ρ n vs)=x.den ρ:=fun x hx=>LE.den_congr (YG ρ n vs) x hx
 have hlb:(LE.fn .dlft l i .nil .nil).bd n:=⟨hbl,hbi,trivial,trivial⟩
 have hup:((Z6 (g d) q Xb e (.fn .dlft l i .nil .nil)).den (bind ρ n vs))=Zp ((g d).den ρ) q Xb e (Zqm (l.den ρ) (i.den ρ).toNat):=by
  rw [Jv,SV.den_congr (YG ρ n vs) (g d) (hg d),hld _ hlb]
  rfl
 obtain ⟨k1,k2,k3⟩:=VO (ρ:=bind ρ n vs) sh (Yd P 8 T) n cs (row.take (P.cellsOf T)) hcs (by rw [r2,Tn]) fun k x e' v hk=>by
  obtain ⟨row2,ys,m1,m2,_⟩:=Zgz (hnq k x e' v hk)
  rw [r1] at m1
  cases m1
  rw [XM] at m2
  have hk2:k < cs.length:=(Xn.1 hk).1
  rw [Zar sh _ _ _ hcs,hl] at hk2
  exact ⟨ys,by rw [Xz,if_pos hk2];exact m2⟩
 refine ⟨bind ρ n vs,n+sh.length,.aggo cs,_,[d],hle,YG ρ n vs,k3,?_,w3,?_⟩
 ·intro u hu
  rw [XH] at hu
  subst hu
  exact SV.bd_mono hle _ (JK (hg d) hlb)
 ·rw [Xk,XL]
  show Kc tx P o _ (.aggo (cs.map (BC.den (bind ρ n vs)))) [(d,(Z6 (g d) q Xb e (.fn .dlft l i .nil .nil)).den (bind ρ n vs))] [d]
  rw [hup,k1]
  have:=Wx ho hT (Zi ρ ha) (show Zr ((fun d=>(g d).den ρ) d) q=_ from hat) (Kb ρ hng) r1 hTe hdp k2
  rw [Zn0 r1]
  exact this.t
theorem Zh1 {T:TypeId} {a:Operand} {all:Bool} {p:Nat×Nat×TypeId×LE×IE×Nat×Nat} (hg:∀ d,(g d).bd n) (ho:o.op = .load T a) (hp:Zen P g a=Xa p) (h:(Zfs P all tk g T p n k).wp P R A ρ):YN tx P R A ρ g o n k:=by
 obtain ⟨d,q,e,l,i,s,off,rfl,ha,hpl,hdp⟩:=ZgB hp
 have hbl:=Jy hpl (hg d)
 have hbi:=ZM (P:=P) hg a
 rw [ha] at hbi
 have hbi:i.bd n:=hbi
 have hat:=ZQ ρ hpl
 simp only [Zfs] at h
 split at h
 case isFalse=>exact h.elim
 rename_i hh
 obtain ⟨rfl,hfit,h0,hng⟩:=hh
 split at h
 ·rename_i hT
  split at h
  ·split at h
   ·rename_i hoff
    subst hoff
    exact ZhF hg ho ha hpl hdp h0 hng hT h
   ·exact h.elim
  ·exact Zew hg ho ha hpl hdp hfit h0 hng hT h
 ·rename_i hT
  split at h
  ·rename_i _ e' hTe
   obtain ⟨q1,q2,h⟩:=h
   obtain ⟨row,ys,m1,m2,m3⟩:=Zgz q2
   refine Wy h (show LE.bd n _ from ⟨hbl,hbi,trivial,trivial⟩) (us1 (JK (hg d) ⟨hbl,hbi,trivial,trivial⟩)) ?_
   have:=ZdK ho hT (Zi ρ ha) (show Zr ((fun d=>(g d).den ρ) d) q=_ from hat) (Kb ρ hng) m1 m2 hdp
   rw [← m3] at this
   rw [Xk,XL]
   show JO P o _ _ [(d,(Z6 (g d) q Xb e (.fn (.dput off (P.cellsOf e') Xc e') l i .nil .nil)).den ρ)] [d]
   rw [Jv]
   exact this
  ·exact Zew hg ho ha hpl hdp hfit h0 hng hT h
 ·exact h.elim
theorem ZmI (ρ:Nat→V) (c:SC):ZpW (c.den ρ)=Xb:=by cases c<;>rfl
theorem ZgG {T:TypeId} {a x:Operand} {p:Nat×Nat×TypeId×LE×IE×Nat×Nat} (hg:∀ d,(g d).bd n) (htop:∀ i,E.top≤i→g i = .dead) (ho:o.op = .store T a x) (hp:Zen P g a=Xa p) (h:(Zb9 P E tx g T x p n k).wp P R A ρ):YN tx P R A ρ g o n k:=by
 obtain ⟨d,q,e,l,i,s,off,rfl,ha,hpl,hdp⟩:=ZgB hp
 have hbl:=Jy hpl (hg d)
 have hbi:=ZM (P:=P) hg a
 rw [ha] at hbi
 have hbi:i.bd n:=hbi
 have hat:=ZQ ρ hpl
 simp only [Zb9] at h
 split at h
 case isFalse=>exact h.elim
 rename_i hh
 obtain ⟨rfl,hfit,h0,hng⟩:=hh
 split at h
 ·rename_i t e' ys h1 h2
  have hx:x = .tmp t:=by cases x<;>simp [Z0] at h1;rw [h1]
  subst hx
  simp only [Z0,Xv,Xf] at h2
  have ht:=hg t
  rw [h2] at ht
  split at h
  case h_2=>exact h.elim
  rename_i us hus
  split at h
  case isFalse=>exact h.elim
  rename_i hh2
  obtain ⟨hT1,hem,hdt⟩:=hh2
  obtain ⟨r1,r2,h⟩:=h
  have r1':0≤i.den ρ:=r1
  have r2':i.den ρ < ((l.den ρ).length:Int):=r2
  obtain ⟨us',rfl,q1,q2,q3⟩:=YA ρ htop (t:=t) h2 hus
  have q2:=q2.resolve_left fun h=>by cases h.1
  refine Wv h trivial (fun u hu=>?_) ?_
  ·rcases Xs.1 hu with hu | hu
   ·exact Yz hus ht u hu
   ·rw [XH] at hu
    subst hu
    exact JK (hg d) ⟨hbl,hbi,ht,trivial⟩
  ·have:=Zdb (T':=tx) (ys:=ys.den ρ) ho (Zi ρ ha) (show Zr ((fun d=>(g d).den ρ) d) q=_ from hat) (Kb ρ hng) (show (fun d=>(g d).den ρ) t = .own Xb e' (ys.den ρ) by show (g t).den ρ=_;rw [h2];rfl) hT1 (show (i.den ρ).toNat < _ by omega) (by omega) hdp hem q2 hdt
   rw [XJ,q1]
   simp only [Xk,XL,Jv]
   exact this
 ·split at h
  case h_2=>exact h.elim
  rename_i vc sh hvc hsh
  split at h
  case h_2=>exact h.elim
  rename_i vc' hvc'
  split at h
  case isFalse=>exact h.elim
  rename_i hn
  obtain ⟨r1,r2,h⟩:=h
  have r1':0≤i.den ρ:=r1
  have r2':i.den ρ < ((l.den ρ).length:Int):=r2
  have hbv:=Va _ _ _ hvc' (ZaI hvc (ZM (P:=P) hg x))
  refine Wy h trivial (us1 (JK (hg d) ⟨hbl,hbi,WR _ hbv⟩)) ?_
  have:=Zcy (vc:=vc.map (SC.den ρ)) (vc':=vc'.map (SC.den ρ)) ho (Zi ρ ha) (show Zr ((fun d=>(g d).den ρ) d) q=_ from hat) (Kb ρ hng) (Ym P g ρ x).symm (VU ρ hvc) (by simpa using hn) (by omega) (show (i.den ρ).toNat < _ by omega) hfit (VQ ρ _ _ _ hvc') (fun z hz=>by obtain ⟨c,_,rfl⟩:=Xm.1 hz;exact ZmI ρ c) hdp
  rw [← Vf] at this
  simp only [Xk,XL,Jv]
  exact this
theorem ZhW {T:TypeId} {a:Operand} {fgt:Bool} {d off:Nat} {cs:List BC} (hg:∀ d,(g d).bd n) (htop:∀ i,E.top≤i→g i = .dead) (ho:o.op = .load T a) (hT:Z2 P T=Xa Xb) (ha:Ju P g a = .ptr d off) (hd:g d = .box cs) (h:(Zfe P E tx fgt g T d off cs n k).wp P R A ρ):YN tx P R A ρ g o n k:=by
 unfold Zfe at h
 have hb0:=hg d
 rw [hd] at hb0
 have hb0:∀ c∈cs,c.bd n:=hb0
 have he0:(cs.map Zn2).map (BC.den ρ)=(cs.map (BC.den ρ)).map Zll:=by
  rw [Uf,Uf]
  refine UO fun c _=>?_
  cases c with
  | c x => cases x <;> rfl
  | own _ _ _ => rfl
  | gone => rfl
 split at h
 ·split at h
  case isFalse=>exact h.elim
  rename_i hh
  obtain ⟨rfl,hl,hw⟩:=hh
  refine Z7 h (fun c hc=>?_) ?_
  ·obtain ⟨y,hy,rfl⟩:=Xm.1 hc
   have:=hb0 y hy
   cases y<;>first | exact this | trivial
  ·have:=ZbI (cs:=cs.map (BC.den ρ)) ho hT (Zi ρ ha) (show (fun d=>(g d).den ρ) d = .box (cs.map (BC.den ρ)) by show (g d).den ρ=_;rw [hd];rfl) (by simpa using hl) (V6 hw ρ)
   rw [← he0] at this
   exact this
 split at h
 case h_2=>exact h.elim
 rename_i us hus
 split at h
 case isFalse=>exact h.elim
 rename_i hh
 obtain ⟨rfl,hl,hw⟩:=hh
 obtain ⟨q1,q2⟩:=ZgT ρ htop hus
 have hb:=hg d
 rw [hd] at hb
 have hb:∀ c∈cs,c.bd n:=hb
 refine Wv h hb (fun u hu=>?_) ?_
 ·rcases Xs.1 hu with hu | hu
  ·rw [q1 u hu];trivial
  ·rw [XH] at hu
   subst hu
   intro c hc
   obtain ⟨y,hy,rfl⟩:=Xm.1 hc
   have:=hb y hy
   cases y<;>first | exact this | trivial
 ·have:=ZdP (T':=tx) (cs:=cs.map (BC.den ρ)) ho hT (Zi ρ ha) (show (fun d=>(g d).den ρ) d = .box (cs.map (BC.den ρ)) by show (g d).den ρ=_;rw [hd];rfl) (by simpa using hl) (V6 hw ρ) q2
  rw [XJ]
  have he:(cs.map Zn2).map (BC.den ρ)=(cs.map (BC.den ρ)).map Zll:=by
   rw [Uf,Uf]
   refine UO fun c _=>?_
   cases c with
   | c x => cases x <;> rfl
   | own _ _ _ => rfl
   | gone => rfl
  simp only [Xk,XL,SV.den,he]
  exact this
theorem Zg6 {sh:Sh} (ρ:Nat→V):∀ (cs:List BC) (a l:LE),ZhL sh cs a=Xa l→l.den ρ=a.den ρ++cs.map (fun c=>[c.den ρ])∧∀ c∈cs,∃ x,c = .c x
 | [], a, l, h => by
  simp only [ZhL,Xf] at h
  subst h
  simp
 | .c x :: r, a, l, h => by
  simp only [ZhL] at h
  split at h
  ·obtain ⟨h1,h2⟩:=Zg6 ρ r _ l h
   refine ⟨?_,fun c hc=>?_⟩
   ·rw [h1]
    simp [LE.den,CE.den,BC.den]
   ·rcases Xu.1 hc with rfl | hc
    ·exact ⟨x,rfl⟩
    ·exact h2 c hc
  ·cases h
 | .own _ _ _ :: _, _, _, h => by simp [ZhL] at h
 | .gone :: _, _, _, h => by simp [ZhL] at h
theorem Zoy {T:TypeId} {a:Operand} {d off m:Nat} {i:IE} (hg:∀ d,(g d).bd n) (ho:o.op = .load T a) (hT:Z2 P T=Xa Xc) (ha:Ju P g a = .vptr d off m i) (h:(Zrr g d off m i n k).wp P R A ρ):YN tx P R A ρ g o n k:=by
 unfold Zrr at h
 split at h
 case h_2=>exact h.elim
 rename_i cs hcs
 split at h
 case h_2=>exact h.elim
 rename_i sh hsh
 split at h
 case h_2=>exact h.elim
 rename_i l hl
 obtain ⟨vs,w1,w2,w3⟩:=h
 obtain ⟨e1,e2⟩:=Zg6 ρ _ _ l hl
 have e1:l.den ρ=((cs.drop off).take m).map (fun c=>[c.den ρ]):=by rw [e1];rfl
 rw [e1,Xl] at w2
 cases hc:((cs.drop off).take m)[(i.den ρ).toNat]? with
 | none => rw [hc] at w2; cases w2
 | some c =>
  rw [hc] at w2
  simp only [Xv,Xf,ZF,Xk,XL,List.cons.injEq,and_true] at w2
  obtain ⟨x,rfl⟩:=e2 c (Xj hc)
  rw [Xz] at hc
  split at hc
  case isFalse=>cases hc
  rw [XI] at hc
  have hd:(fun d=>(g d).den ρ) d = .box (cs.map (BC.den ρ)):=by show (g d).den ρ=_;rw [hcs];rfl
  have hx:(cs.map (BC.den ρ))[off+(i.den ρ).toNat]? = Xa (x.den ρ):=by rw [Xl,hc];rfl
  have hga:Zt P (fun d=>(g d).den ρ) a = .ptr d (off+(i.den ρ).toNat):=by have:=Zi ρ ha;exact this
  have:=YZ (o:=o) (T:=T) ho hT hga hd hx (fun e xs h=>by cases x<;>cases h) (fun h=>by cases x<;>cases h)
  rw [Zi6] at this
  have w2:x.den ρ=(Jq sh n).den (bind ρ n vs):=w2
  rw [w2] at this
  refine ⟨bind ρ n vs,n+1,.c (Jq sh n),[],[d],Nat.le_succ n,YG ρ n vs,?_,by simp,w3,this.t⟩
  exact JA [sh] n _ (by simp [ZF])
theorem ZqD {T:TypeId} {a:Operand} (hg:∀ d,(g d).bd n) (htop:∀ i,E.top≤i→g i = .dead) (ho:o.op = .load T a) (h:(Yk P E tx tk g o n k).wp P R A ρ):YN tx P R A ρ g o n k:=by
 have ba:=ZM (P:=P) hg a
 simp only [Yk,ho] at h
 split at h
 ·rename_i p hp
  exact Zh1 hg ho hp h
 split at h
 ·rename_i d off hT ha
  split at h
  ·rename_i cs hcs
   split at h
   ·rename_i hle
    have hb:=hg d
    rw [hcs] at hb
    refine Wv h (fun c hc=>?_) (by simp) ?_
    ·obtain ⟨y,hy,rfl⟩:=Xm.1 hc
     exact ZmY (hb y (XS (XP hy)))
    ·have:Kc tx P o (fun d=>(g d).den ρ) (.agg (((((cs.map (BC.den ρ)).drop off).take (P.cellsOf T))).map (YM P))) [] (fpL tx d off (P.cellsOf T)):=by
      unfold fpL
      split
      ·rename_i hk
       simp only [Xx,decide_eq_true_eq,XC,Th] at hk
       exact ZaB (cs:=cs.map (BC.den ρ)) ho hT (Zi ρ ha) (by rw [hcs];rfl) (by simpa using hle.1) (Wu hle.2.1 ρ) (ZdY hle.2.2 ρ) hk.1 hk.2
      ·exact (Zav (cs:=cs.map (BC.den ρ)) ho hT (Zi ρ ha) (by rw [hcs];rfl) (by simpa using hle.1) (Wu hle.2.1 ρ) (ZdY hle.2.2 ρ)).t
     have he:(SV.agg (((cs.drop off).take (P.cellsOf T)).map (Zek P))).den ρ = .agg (((((cs.map (BC.den ρ)).drop off).take (P.cellsOf T))).map (YM P)):=by
      simp only [SV.den,Uf,← Ui,← Ut]
      congr 1
      exact UO fun b _=>Zec P ρ b
     rw [he]
     exact this
   ·exact ZhW hg htop ho hT ha hcs h
  ·exact h.elim
 ·rename_i d off hT ha
  split at h
  ·rename_i cs hcs
   have hb:=hg d
   rw [hcs] at hb
   have hd:(fun d=>(g d).den ρ) d = .box (cs.map (BC.den ρ)):=by show (g d).den ρ=_;rw [hcs];rfl
   split at h
   ·rename_i b e xs hx
    have hx':(cs.map (BC.den ρ))[off]? = Xa (.own b e (xs.den ρ)):=by rw [Xl,hx];rfl
    have hbx:=hb _ (Xj hx)
    split at h
    ·split at h
     ·rename_i us _ hus
      obtain ⟨q1,q2⟩:=ZgT ρ htop hus
      split at h
      case isFalse=>exact h.elim
      rename_i hmv
      refine Wv h hbx (fun u hu=>?_) ?_
      ·rcases Xs.1 hu with hu | hu
       ·rw [q1 u hu];trivial
       ·rw [XH] at hu
        subst hu
        intro c hc
        rcases Ue hc with hc | rfl
        ·exact hb c hc
        ·trivial
      ·have:=ZdD (T':=tx) ho hT (Zi ρ ha) hd hx' q2 (Zjg ρ hmv)
       rw [XJ]
       simp only [Xk,XL,SV.den,Uv]
       exact this
     ·have:Kc tx P o (fun d=>(g d).den ρ) (.mref d (off+1)) [] (fpL tx d off 1):=by
       unfold fpL
       split
       ·rename_i hk
        simp only [Xx,decide_eq_true_eq,XC,Th] at hk
        exact WX ho hT (Zi ρ ha) hd hx' (by simpa using hk.2 0 (by omega))
       ·exact (Zaq ho hT (Zi ρ ha) hd hx').t
      exact Wv h trivial (by simp) this
    ·split at h
     ·refine Wy h hbx (us1 (fun c hc=>?_)) ?_
      ·rcases Ue hc with hc | rfl
       ·exact hb c hc
       ·exact hbx
      ·have:=Ze1 ho hT (Zi ρ ha) hd hx'
       simp only [Xk,XL,SV.den,Uv]
       exact this
     ·exact Z7 h hbx (YZ ho hT (Zi ρ ha) hd hx' (fun e xs h=>by cases h) (fun h=>by cases h))
   ·rename_i x hx
    have hx':(cs.map (BC.den ρ))[off]? = Xa (x.den ρ):=by rw [Xl,hx];rfl
    have:Kc tx P o (fun d=>(g d).den ρ) (YM P (x.den ρ)) [] (fpL tx d off 1):=by
     unfold fpL
     split
     ·rename_i hk
      simp only [Xx,decide_eq_true_eq,XC,Th] at hk
      exact WO ho hT (Zi ρ ha) hd hx' (fun e xs h=>by cases x<;>cases h) (fun h=>by cases x<;>cases h) (by simpa using hk.2 0 (by omega))
     ·exact (YZ ho hT (Zi ρ ha) hd hx' (fun e xs h=>by cases x<;>cases h) (fun h=>by cases x<;>cases h)).t
    rw [Zi6] at this
    exact Wv h (hb _ (Xj hx)) (by simp) this
   ·exact h.elim
   ·exact h.elim
  ·exact h.elim
 ·rename_i agg d q i s off hT ha
  split at h
  ·rename_i e l hp
   split at h
   ·rename_i sh hsh
    split at h
    ·rename_i hh
     obtain ⟨rfl,h2,h3,h4,hnm⟩:=hh
     obtain ⟨vs,w1,w2,w3⟩:=h
     have hbd:=JA sh n
     have hat:=ZQ ρ hp
     have hlen:(ZF sh n).length=P.cellsOf e:=by
      have hsl:∀ (l:List Sh) (n:Nat),(ZF l n).length=l.length:=by
       intro l
       induction l with
       | nil => intro n; rfl
       | cons s l ih => intro n; simp only [ZF, XN, ih]
      rw [hsl,h2]
     refine ⟨bind ρ n vs,n+sh.length,_,[],[d],XX _ _,YG ρ n vs,?_,by simp,w3,?_⟩
     ·cases agg with
      | true => exact fun c hc => hbd c (XS (XP hc))
      | false =>
       show SV.bd _ (match (ZF sh n)[off]? with | some x=>.c x | none=>.dead)
       split
       ·rename_i x hx;exact hbd x (Xj hx)
       ·trivial
     ·cases agg with
      | true =>
       have:=Zap ho hT (Zi ρ ha) (show Zr ((fun d=>(g d).den ρ) d) q=_ from hat) w2 h3 hnm
       rw [← Ut,← Ui] at this
       exact this.t
      | false =>
       have hon:P.cellsOf T=1∨off < (ZF sh n).length:=.inr (by omega)
       have hlt:off < (ZF sh n).length:=by omega
       show Kc tx P o _ ((match (ZF sh n)[off]? with | some x=>SV.c x | none=>.dead).den (bind ρ n vs)) _ _
       rw [Xq hlt]
       exact (WG ho hT (Zi ρ ha) (show Zr ((fun d=>(g d).den ρ) d) q=_ from hat) w2 (by omega) (by rw [Xl,Xq hlt];rfl) hnm).t
    ·exact h.elim
   ·exact h.elim
  ·exact h.elim
 ·rename_i cs hT ha
  rw [ha] at ba
  split at h
  ·rename_i hle
   refine Z7 h (fun c hc=>ba c (XP hc)) ?_
   have:=ZdQ (cs:=cs.map (SC.den ρ)) ho hT (Zi ρ ha) (by simpa using hle)
   rw [← Ui] at this
   exact this
  ·exact h.elim
 ·rename_i cs hT ha
  rw [ha] at ba
  split at h
  ·rename_i x rest
   exact Z7 h (ba x (by simp)) (ZcS (cs:=rest.map (SC.den ρ)) ho hT (Zi ρ ha))
  ·exact h.elim
 ·rename_i d off m i hT ha
  exact Zoy hg ho hT ha h
 ·exact h.elim
theorem Zmw (ρ:Nat→V) (v:SC) {w:World} {lim:Nat→Nat} {us:List Value} (h:YC w lim [v.den ρ] us):(∀ z∈[(ZeO v).den ρ],Zbe z)∧∀ (j:Nat) (z:AV) (u:Value),[(ZeO v).den ρ][j]? = Xa z→us[j]? = Xa u→J9 P w lim Xe z u:=by
 have key:∀ u,Rep w lim (v.den ρ) u→J9 P w lim Xe ((ZeO v).den ρ) u:=fun u hr=>by
  cases v with
  | slice f s l =>
   show Rep w lim (.slice Xc s (l.den ρ)) u
   have hr:Rep w lim (.slice f s (l.den ρ)) u:=hr
   generalize l.den ρ=xs at hr
   cases hr with
   | sliceN => exact .sliceN
   | sliceE h => exact .sliceE fun h => by cases h
   | sliceC hs hc hf hle hlim hus hcell hh => exact .sliceC hs hc (fun h => by cases h) hle hlim hus hcell hh
  | int k e => exact hr
  | bool b => exact hr
  | str s => exact hr
 refine ⟨fun z hz=>?_,fun j z u hz hu=>?_⟩
 ·rw [XH] at hz
  subst hz
  exact .inl (by cases v<;>rfl)
 ·match j,hz with
  | 0, hz =>
   simp only [XK,Xf] at hz
   subst hz
   exact key u (h.2.2 0 _ u rfl hu)
theorem ZqU {i:IE} {j kk:Nat} {v c c':SC} (hk:i.den ρ=(kk:Int)) (h:Ztm i j v c=Xa c'):c'.den ρ=if j=kk then (ZeO v).den ρ else c.den ρ:=by
 unfold Ztm at h
 split at h
 ·rename_i b b'
  simp only [Xf] at h
  subst h
  simp only [SC.den,BE.den,IE.den,hk,cop,ZeO]
  by_cases hjk:j=kk
  ·subst hjk;simp
  ·have:((kk:Int) == (j:Int))=Xc:=by simp;omega
   simp [hjk,this]
 ·rename_i f s l s' l'
  split at h
  ·rename_i hs
   simp only [Xf] at h
   subst h
   subst hs
   simp only [SC.den,LE.den,lop,hk,ZeO]
   by_cases hjk:j=kk
   ·subst hjk;simp
   ·have:¬ ((kk:Int)=(j:Int)):=by omega
    simp [hjk,this]
  ·cases h
 ·cases h
theorem Zms {i:IE} {v:SC} {kk:Nat} (hk:i.den ρ=(kk:Int)):∀ (cs:List BC) (j:Nat) (r:List BC),Zhn i v j cs=Xa r→r.length=cs.length∧∀ q,(r.map (BC.den ρ))[q]? = if j+q=kk∧q < cs.length then Xa ((ZeO v).den ρ) else (cs.map (BC.den ρ))[q]?
 | [], j, r, h => by
  simp only [Zhn,Xf] at h
  subst h
  simp
 | .c c :: cs, j, r, h => by
  simp only [Zhn] at h
  split at h
  ·rename_i c' r' h1 h2
   simp only [Xf] at h
   subst h
   obtain ⟨g1,g2⟩:=Zms hk cs (j+1) r' h2
   refine ⟨by simp [g1],fun q=>?_⟩
   cases q with
   | zero =>
    simp only [Xk,XK,Ug,XN,Nat.zero_lt_succ,and_true,BC.den,ZqU hk h1]
    split<;>rfl
   | succ q =>
    simp only [Xk,Ul,XN,Nat.add_lt_add_iff_right,g2 q]
    rw [show j+1+q=j+(q+1) by omega]
  ·cases h
 | .own _ _ _ :: _, _, _, h => by simp [Zhn] at h
 | .gone :: _, _, _, h => by simp [Zhn] at h
theorem Zp4 {i:IE} {v:SC} : ∀ (cs:List BC) (j:Nat) (r:List BC),Zhn i v j cs=Xa r→∀ c∈cs,∃ x,c = .c x
 | [], _, _, _, c, hc => by cases hc
 | .c c :: cs, j, r, h, x, hx => by
  simp only [Zhn] at h
  split at h
  ·rename_i c' r' h1 h2
   rcases Xu.1 hx with rfl | hx
   ·exact ⟨c,rfl⟩
   ·exact Zp4 cs (j+1) r' h2 x hx
  ·cases h
 | .own _ _ _ :: _, _, _, h, _, _ => by simp [Zhn] at h
 | .gone :: _, _, _, h, _, _ => by simp [Zhn] at h
theorem ZlE {i:IE} {v:SC} {n:Nat} (hi:i.bd n) (hv:v.bd n):∀ (cs:List BC) (j:Nat) (r:List BC),Zhn i v j cs=Xa r→(∀ c∈cs,c.bd n)→∀ c∈r,c.bd n
 | [], j, r, h, _ => by
  simp only [Zhn,Xf] at h
  subst h
  simp
 | .c c :: cs, j, r, h, hb => by
  simp only [Zhn] at h
  split at h
  ·rename_i c' r' h1 h2
   simp only [Xf] at h
   subst h
   intro x hx
   rcases Xu.1 hx with rfl | hx
   ·have hc:SC.bd n c:=hb (.c c) (by simp)
    show SC.bd n c'
    unfold Ztm at h1
    split at h1
    ·simp only [Xf] at h1
     subst h1
     exact ⟨⟨⟨hi,trivial⟩,hv⟩,⟨hi,trivial⟩,hc⟩
    ·split at h1
     ·simp only [Xf] at h1
      subst h1
      exact ⟨hc,hi,hv,trivial⟩
     ·cases h1
    ·cases h1
   ·exact ZlE hi hv cs (j+1) r' h2 (fun c hc=>hb c (by simp [hc])) x hx
  ·cases h
 | .own _ _ _ :: _, _, _, h, _ => by simp [Zhn] at h
 | .gone :: _, _, _, h, _ => by simp [Zhn] at h
theorem Zlj {T:TypeId} {a x:Operand} {d off m:Nat} {i:IE} (hg:∀ d,(g d).bd n) (ho:o.op = .store T a x) (ha:Ju P g a = .vptr d off m i) (h:(Zlh P g T x d off m i n k).wp P R A ρ):YN tx P R A ρ g o n k:=by
 have bx:=ZM (P:=P) hg x
 have bi:=ZM (P:=P) hg a
 rw [ha] at bi
 have bi:i.bd n:=bi
 unfold Zlh at h
 split at h
 case h_2=>exact h.elim
 rename_i cs hcs
 split at h
 case h_2=>exact h.elim
 rename_i v hv
 split at h
 case h_2=>exact h.elim
 rename_i r hr
 split at h
 case isFalse=>exact h.elim
 rename_i hh
 obtain ⟨hT1,hfit⟩:=hh
 obtain ⟨r1,r2,h⟩:=h
 have r1':0≤i.den ρ:=r1
 have r2':i.den ρ < (m:Int):=r2
 rw [hv] at bx
 have bx:v.bd n:=bx
 have hb:=hg d
 rw [hcs] at hb
 have hb:∀ c∈cs,c.bd n:=hb
 obtain ⟨kk,hk⟩:∃ kk:Nat,i.den ρ=(kk:Int):=⟨(i.den ρ).toNat,by omega⟩
 have hkm:kk < m:=by omega
 obtain ⟨g1,g2⟩:=Zms hk _ 0 r hr
 have hml:((cs.drop off).take m).length=m:=by simp;omega
 have hd:(fun d=>(g d).den ρ) d = .box (cs.map (BC.den ρ)):=by show (g d).den ρ=_;rw [hcs];rfl
 have hga:Zt P (fun d=>(g d).den ρ) a = .ptr d (off+kk):=by have:=Zi ρ ha;simpa [SV.den,hk] using this
 have hset:(cs.take off++r++cs.drop (off+m)).map (BC.den ρ)=(cs.map (BC.den ρ)).take (off+kk)++[(ZeO v).den ρ]++(cs.map (BC.den ρ)).drop (off+kk+1):=by
  rw [Zal _ _ _ (by rw [Xi];omega)]
  apply List.ext_getElem?
  intro q
  rw [XJ,XJ,List.getElem?_set]
  have l1:((cs.take off).map (BC.den ρ)).length=off:=by simp;omega
  have l2:(r.map (BC.den ρ)).length=m:=by rw [Xi,g1,hml]
  rcases XD q off with hq | hq
  ·rw [Xw,XE (by omega),Ui,Xz,if_pos hq,if_neg (by omega)]
  ·rw [Xw,XB (by omega),l1]
   rcases XD (q-off) m with hq2 | hq2
   ·rw [XE (by omega),g2,hml,XM]
    by_cases hqk:q-off=kk
    ·rw [if_pos ⟨hqk,hq2⟩,if_pos (by omega),if_pos (by rw [Xi];omega)]
    ·rw [if_neg (by omega),if_neg (by omega),Ui,Ut,Xz,if_pos hq2,XI,show off+(q-off)=q by omega]
   ·rw [XB (by omega),l2,Ut,XI,if_neg (by omega),show off+m+(q-off-m)=q by omega]
 have hplain:Zbx (((cs.map (BC.den ρ)).drop (off+kk)).take 1):=fun c hc e xs he=>by
  have hc2:=XP hc
  obtain ⟨q,hq⟩:=XU.1 hc
  have hq0:q=0:=by
   have:=(Xn.1 hq).1
   simp at this
   omega
  subst hq0
  rw [Xz,if_pos (by omega),XI,Ug,Xl] at hq
  have hin:=Zp4 _ 0 r hr
  cases hcc:cs[off+kk]? with
  | none => rw [hcc] at hq; cases hq
  | some c0 =>
   rw [hcc] at hq
   simp only [Xv,Xf] at hq
   have hmem:c0∈(cs.drop off).take m:=Xj (i:=kk) (by rw [Xz,if_pos hkm,XI];exact hcc)
   obtain ⟨y,rfl⟩:=hin c0 hmem
   rw [← hq] at he
   cases y<;>cases he
 refine Wv h trivial (us1 fun c hc=>?_) ?_
 ·rcases Xs.1 hc with hc | hc
  ·rcases Xs.1 hc with hc | hc
   ·exact hb c (XP hc)
   ·exact ZlE bi bx _ 0 r hr (fun c hc=>hb c (XS (XP hc))) c hc
  ·exact hb c (XS hc)
 ·have:=Zd1 (T':=tx) (vc:=[(ZeO v).den ρ]) (vc0:=[v.den ρ]) (y:=v.den ρ) ho hga hd (by have:=(Ym P g ρ x).symm;rw [hv] at this;exact this) (by cases v<;>rfl) (by rw [hT1];rfl) (by omega) (by rw [Xi,hT1];omega) (.inl (by rw [hT1];exact hplain)) ⟨rfl,fun w lim us hrel=>Zmw ρ v hrel⟩
  rw [hT1,← hset] at this
  simp only [Xk,XL,SV.den]
  exact this
theorem Zpp {T:TypeId} {a x:Operand} (hg:∀ d,(g d).bd n) (htop:∀ i,E.top≤i→g i = .dead) (ho:o.op = .store T a x) (h:(Yk P E tx tk g o n k).wp P R A ρ):YN tx P R A ρ g o n k:=by
 have bx:=ZM (P:=P) hg x
 simp only [Yk,ho] at h
 split at h
 ·rename_i p hp
  exact ZgG hg htop ho hp h
 split at h
 ·rename_i d off ha
  split at h
  ·rename_i cs hcs
   have hb:=hg d
   rw [hcs] at hb
   have hd:(fun d=>(g d).den ρ) d = .box (cs.map (BC.den ρ)):=by show (g d).den ρ=_;rw [hcs];rfl
   split at h
   ·rename_i t b e xs h1 h2
    have hx:x = .tmp t:=by cases x<;>simp [Z0] at h1;rw [h1]
    subst hx
    simp only [Z0,Xv,Xf] at h2
    have ht:=hg t
    rw [h2] at ht
    split at h
    ·rename_i us hus
     split at h
     ·rename_i hh
      obtain ⟨us',rfl,q1,q2,q3⟩:=YA ρ htop (t:=t) h2 hus
      refine Wv h trivial (fun u hu=>?_) ?_
      ·rcases Xs.1 hu with hu | hu
       ·exact Yz hus ht u hu
       ·rw [XH] at hu
        subst hu
        intro c hc
        rcases Ue hc with hc | rfl
        ·exact hb c hc
        ·exact ht
      ·have:=ZdG (T':=tx) (e:=e) (xs:=xs.den ρ) ho (Zi ρ ha) hd (by show (g t).den ρ=_;rw [h2];rfl) hh.1 (by simpa using hh.2.1) (ZjJ ρ htop hh.2.2) q2
       rw [XJ,q1]
       simp only [Xk,XL,SV.den,Uv]
       exact this
     ·exact h.elim
    ·exact h.elim
   ·rename_i t vc h1 h2
    have hx:x = .tmp t:=by cases x<;>simp [Z0] at h1;rw [h1]
    subst hx
    simp only [Z0,Xv,Xf] at h2
    have ht:=hg t
    rw [h2] at ht
    split at h
    ·rename_i hh
     refine Wy h trivial (us2 trivial (fun c hc=>?_)) ?_
     ·rcases Xs.1 hc with hc | hc
      ·rcases Xs.1 hc with hc | hc
       ·exact hb c (XP hc)
       ·exact ht c hc
      ·exact hb c (XS hc)
     ·have:=ZcU (vc:=vc.map (BC.den ρ)) ho (Zi ρ ha) hd (show (fun d=>(g d).den ρ) t = .aggo (vc.map (BC.den ρ)) by show (g t).den ρ=_;rw [h2];rfl) (by simpa using hh.1) (by omega) (by simpa using hh.2.2.1) (Wu hh.2.2.2 ρ)
      have he:(SV.box (cs.take off++vc++cs.drop (off+P.cellsOf T))).den ρ = .box ((cs.map (BC.den ρ)).take off++vc.map (BC.den ρ)++(cs.map (BC.den ρ)).drop (off+P.cellsOf T)):=by
       simp only [SV.den,XJ,Ui,Ut]
      simp only [Xk,XL,he]
      exact this
    ·exact h.elim
   ·split at h
    ·rename_i vc hvc
     split at h
     ·rename_i hh
      refine Wv h trivial (fun u hu=>?_) ?_
      ·rw [XH] at hu;subst hu;intro c hc
       rcases Xs.1 hc with hc | hc
       ·rcases Xs.1 hc with hc | hc
        ·exact hb c (XP hc)
        ·exact ZlI _ _ (ZsR P T (ZaI hvc bx)) c hc
       ·exact hb c (XS hc)
      ·have:=Zd1 (vc:=(Y1 (cs.drop off) (nrm P T vc)).map (BC.den ρ)) ho (Zi ρ ha) hd (Ym P g ρ x).symm (VU ρ hvc) (by simpa using hh.1) (by omega) (by simpa using hh.2.2.1) (ZjJ ρ htop hh.2.2.2) (Zra ρ (cs.drop off) (Zsz ρ P T vc))
       have he:(SV.box (cs.take off++Y1 (cs.drop off) (nrm P T vc)++cs.drop (off+P.cellsOf T))).den ρ = .box ((cs.map (BC.den ρ)).take off++(Y1 (cs.drop off) (nrm P T vc)).map (BC.den ρ)++(cs.map (BC.den ρ)).drop (off+P.cellsOf T)):=by
        simp only [SV.den,XJ,Ui,Ut]
       simp only [Xk,XL,he]
       exact this
     ·exact h.elim
    ·exact h.elim
  ·exact h.elim
 ·rename_i d q i s off ha
  split at h
  ·rename_i e l vc hp hvc
   have hpt:=ZM (P:=P) hg a
   rw [ha] at hpt
   have hat:=ZQ ρ hp
   split at h
   ·rename_i sh hsh
    split at h
    ·rename_i vc' hvc'
     split at h
     ·rename_i hh
      obtain ⟨r1,r2,h⟩:=h
      have r1':0≤i.den ρ:=r1
      have r2':i.den ρ < ((l.den ρ).length:Int):=r2
      have hbv:=Va _ _ _ hvc' (ZaI hvc bx)
      refine Wy h trivial (us1 (JK (hg d) ⟨Jy hp (hg d),hpt,WR _ hbv⟩)) ?_
      obtain ⟨h1,h2,h3,h4,h5,hnm⟩:=hh
      subst h1
      have:=Zcr (vc:=vc.map (SC.den ρ)) (vc':=vc'.map (SC.den ρ)) ho (Zi ρ ha) (show Zr ((fun d=>(g d).den ρ) d) q=_ from hat) (Kb ρ h5) (Ym P g ρ x).symm (VU ρ hvc) (by simpa using h2) (by omega) (by omega) h4 (VQ ρ _ _ _ hvc') hnm
      rw [← Vf] at this
      simp only [Xk,XL,Jv]
      exact this
     ·exact h.elim
    ·exact h.elim
   ·exact h.elim
  ·exact h.elim
 ·rename_i d off m i ha
  exact Zlj hg ho ha h
 ·exact h.elim
theorem Zid {x:Operand} (hg:∀ d,(g d).bd n) (ho:o.op = .nilCheck x) (h:(Yk P E tx tk g o n k).wp P R A ρ):YN tx P R A ρ g o n k:=by
 have bx:=ZM (P:=P) hg x
 simp only [Yk,ho] at h
 split at h
 ·rename_i d off hx
  exact Z7 h trivial (Vi ho (Zi ρ hx) (.inl ⟨_,_,rfl⟩))
 ·rename_i cs hx
  rw [hx] at bx
  exact Z7 h bx (Vi ho (Zi ρ hx) (.inr (.inl ⟨_,rfl⟩)))
 ·rename_i d q i s off hx
  rw [hx] at bx
  split at h
  ·rename_i e l hpl
   split at h
   ·rename_i hm
    exact Z7 h bx (Vi ho (Zi ρ hx) (.inr (.inr ⟨_,_,_,_,_,rfl,ZQ ρ hpl,hm,by simp⟩)))
   ·exact h.elim
  ·exact h.elim
 ·exact h.elim
theorem Zrp {op:UnOp} {T:TypeId} {x:Operand} (hg:∀ d,(g d).bd n) (ho:o.op = .unOp op T x) (h:(Yk P E tx tk g o n k).wp P R A ρ):YN tx P R A ρ g o n k:=by
 have bx:=ZM (P:=P) hg x
 simp only [Yk,ho] at h
 split at h
 ·rename_i b hx
  rw [hx] at bx
  refine Z7 h (Zom bx) ?_
  have:=ZnV ho (Zi ρ hx)
  rw [← Znf] at this
  exact this
 ·rename_i kd e hx
  rw [hx] at bx
  exact Z7 h ⟨trivial,bx⟩ (Zoz ho (Zi ρ hx))
 ·rename_i kd e hx
  rw [hx] at bx
  exact Z7 h ⟨trivial,bx⟩ (ZkK ho (Zi ρ hx))
 ·exact h.elim
theorem Zj6 {S T:TypeId} {x:Operand} (hg:∀ d,(g d).bd n) (ho:o.op = .convert S T x) (h:(Yk P E tx tk g o n k).wp P R A ρ):YN tx P R A ρ g o n k:=by
 have bx:=ZM (P:=P) hg x
 simp only [Yk,ho] at h
 split at h
 ·rename_i hS hT hx
  rw [hx] at bx
  exact Z7 h bx (ZmO ho hS hT (Zi ρ hx))
 ·rename_i hS hT hx
  rw [hx] at bx
  split at h
  ·rename_i he
   split at h
   ·rename_i hs
    subst hs
    exact Z7 h.2 bx (Zki ho hS he hT (Zi ρ hx) h.1)
   ·exact h.elim
  ·exact h.elim
 ·exact h.elim
theorem ZfT {T:TypeId} {x:Operand} {f:Nat} (hg:∀ d,(g d).bd n) (ho:o.op = .fieldAddr T x f) (h:(Yk P E tx tk g o n k).wp P R A ρ):YN tx P R A ρ g o n k:=by
 have bx:=ZM (P:=P) hg x
 simp only [Yk,ho] at h
 split at h
 ·rename_i hf hx
  exact Z7 h trivial (ZdJ ho hf (Zi ρ hx))
 ·rename_i off cs hf hx
  rw [hx] at bx
  refine Z7 h (fun c hc=>bx c (XS hc)) ?_
  have:=Zdh (cs:=cs.map (SC.den ρ)) ho hf (Zi ρ hx)
  rw [← Ut] at this
  exact this
 ·rename_i off d q i s off' hf hx
  rw [hx] at bx
  split at h
  ·rename_i e l hpl
   split at h
   ·rename_i hm
    refine Z7 h bx ?_
    have:=Zc3 ho hf (Zi ρ hx) (ZQ ρ hpl) hm
    rw [Uw] at this
    exact this
   ·exact h.elim
  ·exact h.elim
 ·exact h.elim
theorem Zpb {T:TypeId} {x:Operand} {f:Nat} (hg:∀ d,(g d).bd n) (ho:o.op = .field T x f) (h:(Yk P E tx tk g o n k).wp P R A ρ):YN tx P R A ρ g o n k:=by
 have bx:=ZM (P:=P) hg x
 simp only [Yk,ho] at h
 split at h
 ·rename_i off agg sz cs hf hs hx
  rw [hx] at bx
  split at h
  ·rename_i hh
   have hx':Zt P (fun d=>(g d).den ρ) x = .agg (cs.map (SC.den ρ)):=Zi ρ hx
   cases agg with
   | true =>
    simp only at h
    refine Z7 h (fun c hc=>bx c (XS (XP hc))) ?_
    have:=Zc9 (y:=.agg (((cs.map (SC.den ρ)).drop off).take sz)) ho hf hs hx' (by simpa using hh.1) hh.2 (.inl ⟨rfl,rfl⟩)
    rw [← Ut,← Ui] at this
    exact this
   | false =>
    simp only at h
    split at h
    ·rename_i c hc
     refine Z7 h (bx c (Xj hc)) ?_
     exact Zc9 (y:=c.den ρ) ho hf hs hx' (by simpa using hh.1) hh.2 (.inr ⟨rfl,by simp [hc],by cases c<;>rfl⟩)
    ·exact h.elim
  ·exact h.elim
 ·exact h.elim
theorem Zjw {ix:IE} {d off s m:Nat} {kk:SV→STree} : ∀ (j:Nat),j≤m→(ZrG ix d off s m kk j).wp P R A ρ→∃ i:Nat,i < m∧ix.den ρ=(i:Int)∧(kk (.ptr d (off+i*s))).wp P R A ρ
 | 0, _, h => h.elim
 | 1, hj, h => by
  obtain ⟨h1,h2,h3⟩:=h
  have h1':((m-1:Nat):Int)≤ix.den ρ:=h1
  have h2':ix.den ρ≤((m-1:Nat):Int):=h2
  exact ⟨m-1,by omega,by omega,h3⟩
 | j + 2, hj, h => by
  obtain ⟨h1,h2⟩:=h
  by_cases he:ix.den ρ=((m-(j+2):Nat):Int)
  ·exact ⟨m-(j+2),by omega,he,h1 (by simp [BE.den,IE.den,cop,he])⟩
  ·exact Zjw (j+1) (by omega) (h2 (by simp [BE.den,IE.den,cop,he]))
theorem Zgg {T:TypeId} {x i:Operand} (hg:∀ d,(g d).bd n) (ho:o.op = .indexAddr T x i) (h:(Yk P E tx tk g o n k).wp P R A ρ):YN tx P R A ρ g o n k:=by
 simp only [Yk,ho] at h
 split at h
 ·rename_i hT hx hi
  split at h
  ·rename_i sh hsh
   split at h
   ·rename_i hh
    obtain ⟨vs,h1,h2,h3⟩:=h
    exact ⟨bind ρ n vs,n+sh.length,.eptr (ZF sh n),[],[],XX _ _,YG ρ n vs,JA sh n,by simp,h3,
     (ZkC ho hT hh.1 (by omega) (Zi ρ hx) (Zi ρ hi) h1 h2).t⟩
   ·exact h.elim
  ·exact h.elim
 ·rename_i m e d off kd ix hT hx hi
  split at h
  ·rename_i hh
   split at h
   ·rename_i z
    split at h
    ·rename_i hz
     exact Z7 h trivial (KU (kd:=kd) (z:=z) ho hT (by omega) (Zi ρ hx) (Zi ρ hi) hz.1 hz.2)
    ·exact h.elim
   ·split at h
    ·rename_i hv
     obtain ⟨r1,r2,h⟩:=h
     have r1':0≤ix.den ρ:=r1
     have r2':ix.den ρ < (m:Int):=r2
     have:=KU (kd:=kd) (z:=ix.den ρ) ho hT (by omega) (Zi ρ hx) (Zi ρ hi) r1' r2'
     rw [hv.2,Nat.mul_one] at this
     have bi:=ZM (P:=P) hg i
     rw [hi] at bi
     exact Z7 h bi this
    obtain ⟨i',h1,h2,h3⟩:=Zjw m (XA _) h
    have:=KU (kd:=kd) (z:=(i':Int)) ho hT (by omega) (Zi ρ hx) (by rw [← h2];exact Zi ρ hi) (by omega) (by omega)
    rw [Int.toNat_natCast] at this
    exact Z7 h3 trivial this
  ·exact h.elim
 ·rename_i e d q kd ix hT hx hi
  split at h
  ·rename_i e' l hp
   split at h
   ·rename_i hh
    obtain ⟨rfl,h0,hnm⟩:=hh
    obtain ⟨r1,r2,h⟩:=h
    have r1':0≤ix.den ρ:=r1
    have r2':ix.den ρ < ((l.den ρ).length:Int):=r2
    have bi:=ZM (P:=P) hg i
    rw [hi] at bi
    exact Z7 h bi (Zcs ho hT (by omega) (Zi ρ hx) (show Zr ((fun d=>(g d).den ρ) d) q=_ from ZQ ρ hp) rfl (Zi ρ hi) r1' (by omega) hnm)
   ·exact h.elim
  ·exact h.elim
 ·exact h.elim
theorem ZrI {T:TypeId} {a b:Operand} (hg:∀ d,(g d).bd n) (ho:o.op = .makeSlice T a b) (h:(Yk P E tx tk g o n k).wp P R A ρ):YN tx P R A ρ g o n k:=by
 simp only [Yk,ho] at h
 split at h
 ·rename_i m m' ha hb
  split at h
  ·rename_i e hT
   have bm:=ZM (P:=P) hg a
   rw [ha] at bm
   split at h
   ·rename_i i hi
    split at h
    ·rename_i z hz
     split at h
     ·rename_i zc sh hzc hsh
      split at h
      ·rename_i zc' hzc'
       split at h
       ·rename_i hzs
        have h1:=KL ρ z.cells.toList
        rw [hzc] at h1
        obtain ⟨r1,r2,r3,h⟩:=h
        have r2':m.den ρ≤m'.den ρ:=r2
        have r3':m'.den ρ≤m.den ρ:=r3
        have hmm:m'.den ρ=m.den ρ:=by omega
        refine Z7 h (x:=.own (!(E.exO o)) e _) ⟨bm,WR _ (Va _ _ _ hzc' (V9 hzc))⟩ ?_
        have hb':Zt P (fun d=>(g d).den ρ) b = .val (.int .i64 (m.den ρ)):=by rw [← hmm];exact Zi ρ hb
        have:=ZmW (!(E.exO o)) (zc:=zc.map (SC.den ρ)) (zc':=zc'.map (SC.den ρ)) ho hT hi hz hzs.1 h1.symm (Zi ρ ha) hb' r1.1 r1.2 hzs.2 (VQ ρ _ _ _ hzc')
        rw [← Vf] at this
        exact this
       ·exact h.elim
      ·exact h.elim
     ·exact h.elim
    ·exact h.elim
   ·exact h.elim
  ·exact h.elim
 ·exact h.elim
theorem ZoR {T:TypeId} {x:Operand} {lo hi mx:Option Operand} (hg:∀ d,(g d).bd n) (htop:∀ i,E.top≤i→g i = .dead) (ho:o.op = .slice T x lo hi mx) (h:(Yk P E tx tk g o n k).wp P R A ρ):YN tx P R A ρ g o n k:=by
 have bx:=ZM (P:=P) hg x
 simp only [Yk,ho] at h
 split at h
 ·rename_i e full s xs hT hx
  rw [hx] at bx
  have sx:=Zi ρ hx
  split at h
  ·rename_i hh
   have hs0:P.cellsOf e≠0:=by omega
   unfold Zlf at h
   split at h
   ·rename_i k1 k2 h1 h2 h3
    cases lo with
    | some y => simp at h1
    | none =>
     cases hi with
     | none => simp at h2
     | some y =>
      cases mx with
      | none => simp at h3
      | some z =>
       simp only [Xv,Xf] at h2 h3
       exact Z7 h trivial (ZkJ ho hT hs0 sx (Zi ρ h2) (Zi ρ h3))
   ·rename_i h1 h2 h3
    cases lo with
    | some y => simp at h1
    | none =>
     cases hi with
     | some y => simp at h2
     | none =>
      cases mx with
      | some z => simp at h3
      | none =>
       have:=ZbW (l:=0) (h:=(xs.den ρ).length) (f':=full) ho hT hh.1 hs0 sx (XZ _) (XA _) (.inl ⟨rfl,rfl⟩) (.inl ⟨rfl,rfl⟩) (fun h=>⟨h,rfl⟩)
       rw [XW,Tn] at this
       exact Z7 h bx this
   ·rename_i kl l h1 h2 h3
    cases lo with
    | none => simp at h1
    | some y =>
     cases hi with
     | some y => simp at h2
     | none =>
      cases mx with
      | some z => simp at h3
      | none =>
       simp only [Xv,Xf] at h1
       have by1:=ZM (P:=P) hg y
       rw [h1] at by1
       obtain ⟨r1,r2,h⟩:=h
       have r1':0≤l.den ρ:=r1
       have r2':l.den ρ≤((xs.den ρ).length:Int):=r2
       have sy:=Zi ρ h1
       have e1:((l.den ρ).toNat:Int)=l.den ρ:=Tx r1'
       have:=ZbW (l:=(l.den ρ).toNat) (h:=(xs.den ρ).length) (f':=full) ho hT hh.1 hs0 sx (by omega) (XA _) (.inr ⟨y,kl,rfl,by rw [e1];exact sy⟩) (.inl ⟨rfl,rfl⟩) (fun h=>⟨h,rfl⟩)
       rw [XW] at this
       exact Z7 h ⟨bx,by1⟩ this
   ·rename_i kl l h1 h2 h3
    cases lo with
    | some y => simp at h1
    | none =>
     cases hi with
     | none => simp at h2
     | some y =>
      cases mx with
      | some z => simp at h3
      | none =>
       simp only [Xv,Xf] at h2
       have by1:=ZM (P:=P) hg y
       rw [h2] at by1
       obtain ⟨r1,r2,h⟩:=h
       have r1':0≤l.den ρ:=r1
       have r2':l.den ρ≤((xs.den ρ).length:Int):=r2
       have sy:=Zi ρ h2
       have e1:((l.den ρ).toNat:Int)=l.den ρ:=Tx r1'
       have:=ZbW (l:=0) (h:=(l.den ρ).toNat) (f':=Xc) ho hT hh.1 hs0 sx (XZ _) (by omega) (.inl ⟨rfl,rfl⟩) (.inr ⟨y,kl,rfl,by rw [e1];exact sy⟩) (fun h=>by simp at h)
       rw [Tn] at this
       exact Z7 h ⟨bx,by1⟩ this
   ·rename_i kl l kh hb h1 h2 h3
    cases lo with
    | none => simp at h1
    | some y =>
     cases hi with
     | none => simp at h2
     | some z =>
      cases mx with
      | some z => simp at h3
      | none =>
       simp only [Xv,Xf] at h1 h2
       have by1:=ZM (P:=P) hg y
       rw [h1] at by1
       have by2:=ZM (P:=P) hg z
       rw [h2] at by2
       obtain ⟨r1,r2,r3,h⟩:=h
       have r1':0≤l.den ρ:=r1
       have r2':l.den ρ≤hb.den ρ:=r2
       have r3':hb.den ρ≤((xs.den ρ).length:Int):=r3
       have sy:=Zi ρ h1
       have sz:=Zi ρ h2
       have e1:((l.den ρ).toNat:Int)=l.den ρ:=Tx r1'
       have e2:((hb.den ρ).toNat:Int)=hb.den ρ:=Tx (by omega)
       have:=ZbW (l:=(l.den ρ).toNat) (h:=(hb.den ρ).toNat) (f':=Xc) ho hT hh.1 hs0 sx (by omega) (by omega) (.inr ⟨y,kl,rfl,by rw [e1];exact sy⟩) (.inr ⟨z,kh,rfl,by rw [e2];exact sz⟩) (fun h=>by simp at h)
       exact Z7 h ⟨⟨bx,by2⟩,by1⟩ this
   ·exact h.elim
  ·exact h.elim
 ·rename_i e d q hT hx
  split at h
  ·rename_i k1 k2 h2 h3
   split at h
   ·rename_i e' l' hp
    split at h
    ·rename_i h0
     cases hi with
     | none => simp at h2
     | some y =>
      cases mx with
      | none => simp at h3
      | some z =>
       simp only [Xv,Xf] at h2 h3
       exact Z7 h trivial (ZcF ho hT (by omega) (Zi ρ hx) (Zi ρ h2) (Zi ρ h3) (show Zr ((fun d=>(g d).den ρ) d) q=_ from ZQ ρ hp) h0.2)
    ·exact h.elim
   ·exact h.elim
  split at h
  case isFalse=>exact h.elim
  rename_i hq0
  subst hq0
  split at h
  ·rename_i kh hv e' l hhi hd _
   have hb:=hg d
   rw [hd] at hb
   split at h
   ·rename_i us hus
    split at h
    ·rename_i hh
     obtain ⟨rfl,h0,hnm⟩:=hh
     cases hi with
     | none => simp at hhi
     | some z =>
      simp only [Xv,Xf] at hhi
      have bz:=ZM (P:=P) hg z
      rw [hhi] at bz
      obtain ⟨r1,r2,h⟩:=h
      have r1':0≤hv.den ρ:=r1
      have r2':hv.den ρ≤((l.den ρ).length:Int):=r2
      have e1:((hv.den ρ).toNat:Int)=hv.den ρ:=Tx r1'
      obtain ⟨us',rfl,q1,q2,q3⟩:=YA ρ htop (t:=d) hd hus
      have hod:Yw tx (fun d=>(g d).den ρ) d (us.tail.map fun u=>(u.1,u.2.den ρ)):=by
       rcases q2 with ⟨h0,_⟩ | q2
       ·cases h0
       ·exact q2
      refine Wv h ⟨hb,bz⟩ (Yz hus hb) ?_
      rw [q1]
      exact ZhO (h:=(hv.den ρ).toNat) ho hT (by omega) (Zi ρ hx) (show (fun d=>(g d).den ρ) d = .own Xb e' (l.den ρ) by show (g d).den ρ=_;rw [hd];rfl) (by rw [e1];exact Zi ρ hhi) (by omega) hod hnm
    ·exact h.elim
   ·exact h.elim
  ·exact h.elim
 ·exact h.elim
theorem Zj4 {x:Operand} {i:Nat} (hg:∀ d,(g d).bd n) (ho:o.op = .extract x i) (h:(Yk P E tx tk g o n k).wp P R A ρ):YN tx P R A ρ g o n k:=by
 simp only [Yk,ho] at h
 split at h
 ·rename_i t vs h1 h2
  have hx:x = .tmp t:=by cases x<;>simp [Z0] at h1;rw [h1]
  subst hx
  simp only [Z0,Xv,Xf] at h2
  have hb:=hg t
  rw [h2] at hb
  have ht:(fun d=>(g d).den ρ) t = .tuple (vs.map (TC.den ρ)):=by show (g t).den ρ=_;rw [h2];rfl
  split at h
  ·rename_i b e xs hv
   have hv':(vs.map (TC.den ρ))[i]? = Xa (.own b e (xs.den ρ)):=by rw [Xl,hv];rfl
   have hbx:=hb _ (Xj hv)
   split at h
   case isFalse=>exact h.elim
   rename_i hmv
   have hmv':b=Xb→Mv P e (xs.den ρ):=fun hb=>Zjg ρ (by rw [hb] at hmv;simpa using hmv)
   refine Wy h hbx (us1 (fun c hc=>?_)) ?_
   ·rcases Ue hc with hc | rfl
    ·exact hb c hc
    ·cases b<;>first | exact hbx | trivial
   ·have:=Zbw (P:=P) (σ:=fun d=>(g d).den ρ) ho ht hv' hmv'
    simp only [Xk,XL,SV.den,Uv]
    cases b<;>exact this
  ·rename_i y hv
   have hv':(vs.map (TC.den ρ))[i]? = Xa (y.den ρ):=by rw [Xl,hv];rfl
   refine Z7 h (hb _ (Xj hv)) (Zbu (σ:=fun d=>(g d).den ρ) ho ht hv' ?_ ?_ ?_ ?_ ?_)
   ·cases y<;>rfl
   all_goals first
    | (intro d p; cases y <;> simp [SV.den, SC.den])
    | (intro d; cases y <;> simp [SV.den, SC.den])
    | (cases y <;> simp [SV.den, SC.den])
  ·rename_i cs hv
   have hv':(vs.map (TC.den ρ))[i]? = Xa (.agg (cs.map (SC.den ρ))):=by rw [Xl,hv];rfl
   exact Z7 h (hb _ (Xj hv)) (Zbu (σ:=fun d=>(g d).den ρ) ho ht hv' rfl (fun _ _ h=>by cases h) (fun _ h=>by cases h) (fun h=>by cases h) (fun h=>by cases h))
  ·exact h.elim
  ·exact h.elim
 ·exact h.elim
theorem Zsp {c:Call} (hg:∀ d,(g d).bd n) (ho:o.op = .call c) (hc:c.callee = .builtin .len) (h:(Yk P E tx tk g o n k).wp P R A ρ):YN tx P R A ρ g o n k:=by
 simp only [Yk,ho,hc] at h
 split at h
 ·rename_i x T hargs hts
  have bx:=ZM (P:=P) hg x
  split at h
  ·rename_i d q hx
   split at h
   ·rename_i e e' l hT hp
    split at h
    ·rename_i hnm
     exact Z7 h (Jy hp (hg d)) (Zfu ho hc hargs hts hT (Zi ρ hx) (show Zr ((fun d=>(g d).den ρ) d) q=_ from ZQ ρ hp) hnm)
    ·exact h.elim
   ·exact h.elim
  ·unfold Zsy at h
   split at h
   ·rename_i hT hx
    rw [hx] at bx
    exact Z7 h bx (ZdN ho hc hargs hts hT (Zi ρ hx))
   ·rename_i hT hx
    rw [hx] at bx
    exact Z7 h bx (Zgp ho hc hargs hts hT (Zi ρ hx))
   ·exact h.elim
 ·exact h.elim
theorem ZqW {c:Call} (hg:∀ d,(g d).bd n) (ho:o.op = .call c) (hc:c.callee = .builtin .copy) (h:(Yk P E tx tk g o n k).wp P R A ρ):YN tx P R A ρ g o n k:=by
 simp only [Yk,ho,hc] at h
 split at h
 ·rename_i x y T T' hargs hts
  split at h
  ·rename_i e d q f s ys hT hx hy
   split at h
   ·rename_i e' l hp
    split at h
    ·rename_i hh
     obtain ⟨rfl,h1,rfl,h5,hnm⟩:=hh
     have by1:=ZM (P:=P) hg y
     rw [hy] at by1
     refine Wy h trivial (us1 (JK (hg d) ⟨Jy hp (hg d),by1⟩)) ?_
     simp only [Xk,XL,Jv]
     exact ZdT (f:=f) ho hc hargs hts hT h1 (Zi ρ hx) (show Zr ((fun d=>(g d).den ρ) d) q=_ from ZQ ρ hp) (Kb ρ h5) (Zi ρ hy) hnm
    ·exact h.elim
   ·exact h.elim
  ·exact h.elim
 ·exact h.elim
theorem Zdc {c:Call} {T:TypeId} {x y:Operand} (src:Option Nat) {xv:SV} {ex:Bool} (hg:∀ d,(g d).bd n) (htop:∀ i,E.top≤i→g i = .dead) (ho:o.op = .call c) (hc:c.callee = .builtin .append) (hargs:c.args.toList = [x,y])
  (hts:c.argTypes.toList = [T,T]) (hsrc:∀ t,src=Xa t→x = .tmp t∧xv=g t) (hnone:src=Xe→xv=Ju P g x)
  (h:(ZbY P T tx g E.top ex src xv (Ju P g y) fun v us=>k v us [] n).wp P R A ρ):YN tx P R A ρ g o n k:=by
 have bY:=ZM (P:=P) hg y
 have hxv:xv.bd n:=by
  cases src with
  | none => rw [hnone rfl]; exact ZM hg x
  | some t => rw [(hsrc t rfl).2]; exact hg t
 unfold ZbY at h
 split at h
 ·rename_i e hT
  split at h
  ·rename_i i hi
   split at h
   ·rename_i z hz
    split at h
    ·rename_i hh
     split at h
     ·rename_i b e' xs f s ys hy
      rw [hy] at bY
      split at h
      ·rename_i t
       obtain ⟨rfl,hx⟩:=hsrc t rfl
       split at h
       ·rename_i us hus
        split at h
        ·rename_i he
         obtain ⟨rfl,rfl⟩:=he
         obtain ⟨us',rfl,q1,q2,q3⟩:=YA ρ htop (t:=t) hx.symm hus
         refine Wv h.2 ⟨hxv,bY⟩ (Yz hus hxv) ?_
         rw [q1]
         exact Zdt (σ:=fun d=>(g d).den ρ) ho hc hargs hts hT hi hz hh.1 (by show (g t).den ρ=_;rw [← hx];rfl) (Zi ρ hy) h.1 q2 hh.2.2
        ·exact h.elim
       ·exact h.elim
      ·exact h.elim
     ·rename_i s0 f s ys hy
      rw [hy] at bY
      split at h
      ·rename_i he
       subst he
       refine Wy h.2 bY (by simp) ?_
       have hx:Zt P (fun d=>(g d).den ρ) x = .slice Xb s0 []:=by
        cases src with
        | none => exact Zi ρ (hnone rfl).symm
        | some t =>
         obtain ⟨rfl,hx⟩:=hsrc t rfl
         simp only [Zt,← hx]
         rfl
       exact ZbH (σ:=fun d=>(g d).den ρ) ex ho hc hargs hts hT hi hz hh.1 hx (Zi ρ hy) h.1 hh.2.2
      ·exact h.elim
     ·exact h.elim
    ·exact h.elim
   ·exact h.elim
  ·exact h.elim
 ·exact h.elim
theorem V5 {c:Call} {T:TypeId} {x y:Operand} (src:Option Nat) {xv:SV} {ex:Bool} {d q:Nat} (hg:∀ d,(g d).bd n) (htop:∀ i,E.top≤i→g i = .dead) (ho:o.op = .call c) (hc:c.callee = .builtin .append) (hargs:c.args.toList = [x,y])
  (hts:c.argTypes.toList = [T,T]) (hy:Ju P g y = .mref d q) (hsrc:∀ t,src=Xa t→x = .tmp t∧xv=g t) (hnone:src=Xe→xv=Ju P g x)
  (h:(VM P T tx g E.top ex src xv (Jd (g d) q) fun v us=>k v us [d] n).wp P R A ρ):YN tx P R A ρ g o n k:=by
 have hxv:xv.bd n:=by
  cases src with
  | none => rw [hnone rfl]; exact ZM hg x
  | some t => rw [(hsrc t rfl).2]; exact hg t
 unfold VM at h
 split at h
 ·rename_i e hT
  split at h
  ·rename_i i hi
   split at h
   ·rename_i z hz
    split at h
    ·rename_i hh
     split at h
     ·rename_i b e' xs e2 ys hp
      split at h
      ·rename_i t
       obtain ⟨rfl,hx⟩:=hsrc t rfl
       split at h
       ·rename_i us hus
        split at h
        ·rename_i he
         obtain ⟨rfl,rfl⟩:=he
         obtain ⟨us',rfl,q1,q2,q3⟩:=YA ρ htop (t:=t) hx.symm hus
         refine Wv h.2 ⟨hxv,Jy hp (hg d)⟩ (Yz hus hxv) ?_
         rw [q1]
         exact Ww (σ:=fun d=>(g d).den ρ) ho hc hargs hts hT hi hz hh.1 (by show (g t).den ρ=_;rw [← hx];rfl) (Zi ρ hy) (show Zr ((fun d=>(g d).den ρ) d) q=_ from ZQ ρ hp) h.1 q2 hh.2.2
        ·exact h.elim
       ·exact h.elim
      ·exact h.elim
     ·rename_i s0 e' ys hp
      split at h
      ·rename_i he
       subst he
       have hx':Zt P (fun d=>(g d).den ρ) x = .slice Xb s0 []:=by
        cases src with
        | none => exact Zi ρ (hnone rfl).symm
        | some t =>
         obtain ⟨rfl,hx⟩:=hsrc t rfl
         simp only [Zt,← hx]
         rfl
       refine Z7 h.2 (Jy hp (hg d)) ?_
       exact VV (σ:=fun d=>(g d).den ρ) ex ho hc hargs hts hT hi hz hh.1 hx' (Zi ρ hy) (show Zr ((fun d=>(g d).den ρ) d) q=_ from ZQ ρ hp) h.1 hh.2.2
      ·exact h.elim
     ·exact h.elim
    ·exact h.elim
   ·exact h.elim
  ·exact h.elim
 ·exact h.elim
theorem ZlU {g:Nat→SV} (ρ:Nat→V) {d top:Nat} (htop:∀ i,top≤i→g i = .dead) {x:Bool} {e:TypeId} {l:LE} (hd:g d = .own x e l) (h:(ZP g d top).isEmpty=Xb):∀ j k,¬ Jl ((g j).den ρ) d k:=by
 intro j k hr
 by_cases hj:j=d
 ·subst hj
  rw [hd] at hr
  rcases hr with hr | ⟨_,hr⟩ <;> cases hr
 ·have:=(JB (g:=g) ρ (d:=d) htop).2 j k hj hr
  rw [Tw] at h
  rw [h] at this
  cases this
theorem Zft {c:Call} {T:TypeId} {t u:Nat} {D D':TypeId} {xs ys:LE} (hg:∀ d,(g d).bd n) (htop:∀ i,E.top≤i→g i = .dead) (ho:o.op = .call c) (hc:c.callee = .builtin .append) (hargs:c.args.toList = [.tmp t,.tmp u])
  (hts:c.argTypes.toList = [T,T]) (hgt:g t = .own Xb D xs) (hgu:g u = .own Xb D' ys)
  (h:(Zbf P T tx g E.top t u D D' xs ys fun v us=>k v us [] n).wp P R A ρ):YN tx P R A ρ g o n k:=by
 unfold Zbf at h
 split at h
 case h_2=>exact h.elim
 rename_i e hT
 split at h
 case h_2=>exact h.elim
 rename_i i hi
 split at h
 case h_2=>exact h.elim
 rename_i z hz
 split at h
 case isFalse=>exact h.elim
 rename_i hh
 obtain ⟨⟨h1,rfl,rfl⟩,⟨h4,h5⟩,h6,h7,h8⟩:=hh
 have bx:=hg t
 rw [hgt] at bx
 have by':=hg u
 rw [hgu] at by'
 refine Wv h.2 ⟨bx,by'⟩ (us2 trivial trivial) ?_
 exact ZbF (σ:=fun d=>(g d).den ρ) ho hc hargs hts hT hi hz h1 (show (g t).den ρ=_ by rw [hgt];rfl) (show (g u).den ρ=_ by rw [hgu];rfl) h6 h.1 h4 h5 (ZlU ρ htop hgt h7) (ZlU ρ htop hgu h8)
theorem Zlw {c:Call} (hg:∀ d,(g d).bd n) (htop:∀ i,E.top≤i→g i = .dead) (ho:o.op = .call c) (hc:c.callee = .builtin .append) (h:(Yk P E tx tk g o n k).wp P R A ρ):YN tx P R A ρ g o n k:=by
 simp only [Yk,ho,hc] at h
 split at h
 ·rename_i x y T T' hargs hts
  split at h
  ·rename_i hTT
   subst hTT
   split at h
   ·rename_i d q hy
    split at h
    ·rename_i t D' ys u ht hgd
     have hx:x = .tmp t:=by cases x<;>simp [Z0] at ht;rw [ht]
     split at h
     ·rename_i D xs hgt hdp
      split at h
      case isFalse=>exact h.elim
      rename_i hud
      subst hud
      subst hx
      exact Zft hg htop ho hc hargs hts hgt hgd h
     ·exact V5 (Xa t) hg htop ho hc hargs hts hy (fun t' ht'=>by simp only [Xf] at ht';subst ht';exact ⟨hx,rfl⟩) (fun h=>by cases h) h
    split at h
    ·rename_i t ht
     have hx:x = .tmp t:=by cases x<;>simp [Z0] at ht;rw [ht]
     exact V5 (Xa t) hg htop ho hc hargs hts hy (fun t' ht'=>by simp only [Xf] at ht';subst ht';exact ⟨hx,rfl⟩) (fun h=>by cases h) h
    ·exact V5 Xe hg htop ho hc hargs hts hy (fun t' ht'=>by cases ht') (fun _=>rfl) h
   split at h
   ·rename_i t ht
    have hx:x = .tmp t:=by cases x<;>simp [Z0] at ht;rw [ht]
    exact Zdc (Xa t) hg htop ho hc hargs hts (fun t' ht'=>by simp only [Xf] at ht';subst ht';exact ⟨hx,rfl⟩) (fun h=>by cases h) h
   ·exact Zdc Xe hg htop ho hc hargs hts (fun t' ht'=>by cases ht') (fun _=>rfl) h
  ·exact h.elim
 ·exact h.elim
theorem Zqj {c:Call} {ka kb:IntKind} {a b:IE} (h:c.args.toList.map (Ju P g) = [.c (.int ka a),.c (.int kb b)]) :
  ∃ x y,c.args.toList = [x,y]∧Ju P g x = .c (.int ka a)∧Ju P g y = .c (.int kb b):=by
 cases hl:c.args.toList with
 | nil => simp [hl] at h
 | cons x l =>
  cases l with
  | nil => simp [hl] at h
  | cons y l =>
   cases l with
   | nil => simp only [hl, Xk, XL, List.cons.injEq, and_true] at h; exact ⟨x, y, rfl, h.1, h.2⟩
   | cons z l => simp [hl] at h
theorem ZsA {c:Call} (hg:∀ d,(g d).bd n) (ho:o.op = .call c) (hc:c.callee = .builtin .min) (h:(Yk P E tx tk g o n k).wp P R A ρ):YN tx P R A ρ g o n k:=by
 simp only [Yk,ho,hc] at h
 split at h
 ·rename_i ka a kb b hl
  obtain ⟨x,y,h1,h2,h3⟩:=Zqj hl
  split at h
  ·rename_i he
   subst he
   have b1:=ZM (P:=P) hg x
   have b2:=ZM (P:=P) hg y
   rw [h2] at b1
   rw [h3] at b2
   exact Z7 h ⟨b1,b2⟩ (ZcV (mn:=Xb) ho hc h1 (Zi ρ h2) (Zi ρ h3))
  ·exact h.elim
 ·exact h.elim
theorem Zr5 {c:Call} (hg:∀ d,(g d).bd n) (ho:o.op = .call c) (hc:c.callee = .builtin .max) (h:(Yk P E tx tk g o n k).wp P R A ρ):YN tx P R A ρ g o n k:=by
 simp only [Yk,ho,hc] at h
 split at h
 ·rename_i ka a kb b hl
  obtain ⟨x,y,h1,h2,h3⟩:=Zqj hl
  split at h
  ·rename_i he
   subst he
   have b1:=ZM (P:=P) hg x
   have b2:=ZM (P:=P) hg y
   rw [h2] at b1
   rw [h3] at b2
   exact Z7 h ⟨b1,b2⟩ (ZcV (mn:=Xc) ho hc h1 (Zi ρ h2) (Zi ρ h3))
  ·exact h.elim
 ·exact h.elim
theorem ZgD (ρ:Nat→V) (l:List SAK):(l.map (SAK.den ρ)).filterMap AK.slot=l.filterMap SAK.slot:=by
 rw [List.filterMap_map]
 congr 1
 funext a
 exact Zb6 ρ a
theorem Zih {c:Call} {f:FuncId} {ds rf:List Nat} {aZ:List SAK} (htop:∀ i,E.top≤i→g i = .dead) (ho:o.op = .call c) (hc:(c.callee = .value (.func f)∧ds = [])∨∃ t,c.callee = .value (.tmp t)∧(g t).den ρ = .clo f ds)
  (ha:VJ P g ρ (c.args.toList.map Zby.op++ds.map Zby.cap) aZ) (hraw:Raw aZ) (hrf:∀ (i:Nat) (x:Operand),c.args.toList[i]? = Xa x→(rf.contains i&&(Zc7 g x).isSome)=Xb→∃ t d q j,aZ[i]? = Xa (SAK.ref t d q j)) (h:(ZgJ P E tx g f (WL P g rf c.args.toList 0) (Zbb g (Ztb P f) aZ) n k).wp P R A ρ):YN tx P R A ρ g o n k:=by
 unfold ZgJ at h
 split at h
 ·rename_i saks Ts hs _
  split at h
  ·rename_i hnd0
   obtain ⟨hnd,hfree⟩:=hnd0
   split at h
   ·rename_i res sh n' hr
    obtain ⟨q1,q2,q3⟩:=Zkj hr
    dsimp only at h
    split at h
    case isFalse=>exact h.elim
    rename_i hbo0
    obtain ⟨hbo,hrnm⟩:=hbo0
    obtain ⟨vs,h1,h2⟩:=h
    obtain ⟨tail,a1,a2,a3,a4,a5,a6⟩:=ZkA ρ ha hraw hs
    have hlen:((JH (saks.map SAK.sv) n').1).length=saks.length:=by rw [Zeo,Xi]
    refine ⟨bind ρ n vs,(JH (saks.map SAK.sv) n').2.2,res,ZaN saks (JH (saks.map SAK.sv) n').1,saks.filterMap SAK.slot++(WL P g rf c.args.toList 0).map (·.1),XY q1 (Kt _ _),YG ρ n vs,SV.bd_mono (Kt _ _) _ q2,
     Vw _ _ (Zay _ _),h2,?_⟩
    have:=ZmF (T:=tx) (((WL P g rf c.args.toList 0).head?.getD (0,0)).1) (((WL P g rf c.args.toList 0).head?.getD (0,0)).2) ((WL P g rf c.args.toList 0).map (·.1)) (P:=P) (σ:=fun d=>(g d).den ρ) (aks:=saks.map (SAK.den ρ)) (res:=res.den (bind ρ n vs)) (outs:=(JH (saks.map SAK.sv) n').1.map (SV.den (bind ρ n vs))) (tail:=tail) ho hc (by simpa using a1.1)
     (fun i x a hx hi=>?_) a2 (by simpa using a3) a4 a5
     (by rw [ZgD];exact Y3 _ hnd) (by simp [hlen]) (fun i d fr to cs y hi hy=>?_) (q3 _) (ZoA _ hrnm) (fun i t e xs hi=>?_) (fun i d fr to cs hi=>?_) (fun i x hx hz d q hxm hno=>?_) ?_
    ·rw [Zgd,ZgD] at this
     exact this
    ·rw [Xl] at hi
     cases hsi:saks[i]? with
     | none => simp [hsi] at hi
     | some a0 =>
      simp only [hsi,Xv,Xf] at hi
      subst hi
      exact a1.2 i x a0 hx hsi
    ·rw [Xl] at hi hy
     cases hsi:saks[i]? with
     | none => simp [hsi] at hi
     | some a =>
      cases hyi:(JH (saks.map SAK.sv) n').1[i]? with
      | none => simp [hyi] at hy
      | some y0 =>
       simp only [hsi,hyi,Xv,Xf] at hi hy
       subst hy
       cases a with
       | box d0 fr0 to0 cs0 =>
        simp only [SAK.den,AK.box.injEq] at hi
        obtain ⟨rfl,rfl,rfl,rfl⟩:=hi
        obtain ⟨cs',rfl⟩:=Ws (saks.map SAK.sv) n' i to0 cs0 y0 (by rw [Xl,hsi];rfl) hyi
        exact ⟨_,ZbZ _ _ _⟩
       | _ => cases hi
    ·rw [Xl] at hi
     cases hsi:saks[i]? with
     | none => simp [hsi] at hi
     | some a =>
      simp only [hsi,Xv,Xf] at hi
      cases a with
      | own t0 x0 e0 l0 =>
       simp only [SAK.den,AK.own.injEq] at hi
       obtain ⟨rfl,rfl,rfl,_⟩:=hi
       unfold Zfk at hfree
       rw [XC] at hfree
       have hf:=hfree _ (Xj hsi)
       cases tx with
       | any N M K => exact .inr ⟨N, M, K, rfl, hf, rfl⟩
       | text =>
       simp only [Tw] at hf
       refine .inl ⟨rfl,by simp,fun j q _ hr=>?_⟩
       have hda:=(JB ρ htop (d:=t0)).2 j q
       by_cases hj:j=t0
       ·subst hj
        have hok:=a1.2 i
        have hlt:=(Xn.1 hsi).1
        obtain ⟨x,hx⟩:∃ x,(c.args.toList.map Zby.op++ds.map Zby.cap++tail)[i]? = Xa x:=⟨_,Xq (by rw [a1.1];exact hlt)⟩
        have hk:=hok x _ hx hsi
        cases x with
        | op y =>
         have h1:(g j).den ρ = .own Xb e0 (l0.den ρ):=hk.2
         have hr':Jl ((g j).den ρ) j q:=hr
         rw [h1] at hr'
         rcases hr' with h2 | ⟨_,h2⟩ <;> cases h2
        | _ => exact hk.elim
       ·have:=hda hj hr
        rw [hf] at this
        cases this
      | _ => cases hi
    ·rw [Xl] at hi
     cases hsi:saks[i]? with
     | none => simp [hsi] at hi
     | some a =>
      simp only [hsi,Xv,Xf] at hi
      cases a with
      | box t0 fr0 to0 cs0 =>
       simp only [SAK.den,AK.box.injEq] at hi
       obtain ⟨rfl,rfl,rfl,rfl⟩:=hi
       unfold Zfk at hfree
       rw [XC] at hfree
       have hf0:=hfree _ (Xj hsi)
       rcases Te.1 hf0 with hpl | hf
       ·exact .inl (Zcm hpl ρ)
       ·right
        cases tx with
        | any N M K =>
         rcases Te.1 hf with hf | hf
         ·exact .inl (.inr ⟨N,M,K,rfl,hf,rfl⟩)
         ·refine .inr fun σ' hrl j q hr=>?_
          cases hM:M t0 with
          | none => rw [hM] at hf; cases hf
          | some t =>
           rw [hM] at hf
           simp only at hf
           by_cases hj:t=j
           ·subst hj
            rw [UJ] at hf
            obtain ⟨b,hb,hbt⟩:=hf
            cases b with
            | ref t1 _ _ _ =>
             have h4:t1=t:=by simpa using hbt
             exact ⟨_,Xm.2 ⟨_,hb,rfl⟩,by rw [Zb6];show Xa t1=Xa t;rw [h4]⟩
            | _ => cases hbt
           ·exact (hrl.1 t0 j q (by simp [Odr.nr,hM,hj]) hr).elim
        | text =>
        refine .inr fun σ' hrl j q hr=>?_
        have hrl':σ'=fun d=>(g d).den ρ:=hrl
        rw [hrl'] at hr
        have hda:=(JB ρ htop (d:=t0)).2 j q
        by_cases hj:j=t0
        ·subst hj
         have hok:=a1.2 i
         have hlt:=(Xn.1 hsi).1
         obtain ⟨x,hx⟩:∃ x,(c.args.toList.map Zby.op++ds.map Zby.cap++tail)[i]? = Xa x:=⟨_,Xq (by rw [a1.1];exact hlt)⟩
         have hk:=hok x _ hx hsi
         have hr':Jl ((g j).den ρ) j q:=hr
         have hb0:∃ fr cs,(g j).den ρ=mkB fr cs:=by
          cases x with
          | op y => exact ⟨Xc, _, hk.2.1⟩
          | cap d' => exact ⟨_, _, hk.2.1⟩
          | ghost => exact ⟨_, _, hk.1⟩
          | pad => exact hk.elim
         obtain ⟨fr,cs,hb0⟩:=hb0
         rw [hb0] at hr'
         cases fr<;>rcases hr' with h2 | ⟨_,h2⟩ <;> cases h2
        ·have hm:=hda hj hr
         rw [XC] at hf
         obtain ⟨u,hu,huj⟩:=Xm.1 hm
         obtain ⟨u0,hu0,rfl⟩:=Xm.1 hu
         have h3:=hf u0 hu0
         rw [UJ] at h3
         obtain ⟨b,hb,hbt⟩:=h3
         cases b with
         | ref t1 _ _ _ =>
          refine ⟨_,Xm.2 ⟨_,hb,rfl⟩,?_⟩
          have h4:t1=u0.1:=by simpa using hbt
          rw [Zb6]
          show Xa t1=Xa j
          rw [h4];exact congrArg Xa huj
         | _ => cases hbt
      | _ => cases hi
    ·have hnrf:(rf.contains (0+i)&&(Zc7 g x).isSome)=Xc:=by
      rw [XM]
      cases hc':(rf.contains i&&(Zc7 g x).isSome) with
      | false => rfl
      | true =>
       obtain ⟨t1,d1,q1,j1,h1'⟩:=hrf i x hx hc'
       obtain ⟨j2,h2'⟩:=a6 i t1 d1 q1 j1 h1'
       obtain ⟨z,hz⟩:=hz
       rw [Xl,h2'] at hz
       cases hz
     have hm:=Zg9 (P:=P) (g:=g) ρ hx hnrf hxm hno
     generalize WL P g rf c.args.toList 0=bs at hm hbo
     cases bs with
     | nil => cases hm
     | cons p r =>
      simp only [ZrU,Xx,XC,decide_eq_true_eq,UK,List.contains_eq_mem,decide_eq_false_iff_not] at hbo
      obtain ⟨⟨⟨b1,b2⟩,b3⟩,b4⟩:=hbo
      have hp:d=p.1∧q=p.2:=by
       rcases Xu.1 hm with h0 | h0
       ·rw [← h0];exact ⟨rfl,rfl⟩
       ·exact b1 _ h0
      refine ⟨hp.1,hp.2,by simp,fun a ha hs=>b2 ?_,fun i=>?_⟩
      ·obtain ⟨a0,ha0,rfl⟩:=Xm.1 ha
       rw [Zb6] at hs
       exact List.mem_filterMap.2 ⟨a0,ha0,hs⟩
      ·simp only [ZW]
       rcases XD i ((JH (saks.map SAK.sv) n').1.map (SV.den (bind ρ n vs))).length with hi | hi
       ·rw [XE hi,Xl]
        cases hy:(JH (saks.map SAK.sv) n').1[i]? with
        | none => rfl
        | some y => exact Zeq _ (b4 y (Xj hy))
       ·rw [XB hi]
        cases hj:i-((JH (saks.map SAK.sv) n').1.map (SV.den (bind ρ n vs))).length with
        | zero => exact Zeq _ b3
        | succ j => rfl
    ·have he:(saks.map (SAK.den ρ)).map AK.av=(saks.map SAK.sv).map (SV.den ρ):=by
      rw [Uf,Uf]
      exact UO fun a _=>Zp6 ρ a
     rw [he]
     exact h1
   ·exact h.elim
  ·exact h.elim
 ·exact h.elim
theorem ZhX {d:Nat} {u:Nat×SV} {n:Nat} (ρ:Nat→V) (hu:u∈ZP g d n):u.2 = .dead∧∃ d k,Jl ((g u.1).den ρ) d k:=by
 obtain ⟨h1,_,_,h4⟩:=(Js n u).1 hu
 obtain ⟨k,hk⟩:=(ZaM ρ d (g u.1)).1 h4
 exact ⟨h1,d,k,hk⟩
theorem Zil {rf:List Nat} {args:List Operand} {u:Nat×SV} (ρ:Nat→V) (hu:u∈ZbO E tx g rf args):u.2 = .dead∧∃ d k,Jl ((g u.1).den ρ) d k:=by
 unfold ZbO at hu
 split at hu
 ·obtain ⟨p,_,hp⟩:=List.mem_flatMap.1 (U4.1 hu).1
  split at hp
  ·split at hp
   ·exact ZhX ρ hp
   ·cases hp
  ·cases hp
 ·cases hu
theorem ZgV (kl:Ups):(fun d=>(Zhg kl g d).den ρ)=JC (fun d=>(g d).den ρ) ((kl.map fun u=>(u.1,SV.dead.den ρ))):=by
 funext d
 rw [Ku _ _ _ (fun u hu=>by obtain ⟨v,_,rfl⟩:=Xm.1 hu;rfl)]
 unfold Zhg
 by_cases h:(kl.any fun u=>u.1 == d)=Xb
 ·rw [if_pos h,if_pos]
  ·rfl
  ·rw [UJ] at h
   obtain ⟨u,hu,he⟩:=h
   rw [Uf]
   exact Xm.2 ⟨u,hu,by simpa using he⟩
 ·rw [if_neg h,if_neg]
  rw [Uf]
  intro hm
  obtain ⟨u,hu,he⟩:=Xm.1 hm
  exact h (UJ.2 ⟨u,hu,by simpa using he⟩)
theorem ZkR (kl:Ups) (hkl:∀ u∈kl,u.2 = .dead∧(∃ d k,Jl ((g u.1).den ρ) d k)∧u.1∉VC o) (h:YN .text P R A ρ (Zhg kl g) o n (fun x us fp n'=>k x (kl++us) fp n')):YN .text P R A ρ g o n k:=by
 obtain ⟨ρ',n',x,us,fp,h1,h2,h3,h4,h5,h6⟩:=h
 refine ⟨ρ',n',x,kl++us,fp,h1,h2,h3,fun u hu=>?_,h5,?_⟩
 ·rcases Xs.1 hu with hu | hu
  ·rw [(hkl u hu).1];trivial
  ·exact h4 u hu
 intro c hc σ' tm w lim X _ _ hT hsim next Q hn
 have hT':σ'=fun d=>(g d).den ρ:=hT
 subst hT'
 have hmap:(kl.map fun u=>(u.1,u.2.den ρ'))=kl.map fun u=>(u.1,SV.dead.den ρ):=UO fun u hu=>by rw [(hkl u hu).1];rfl
 obtain ⟨X',hs,_⟩:=Sim.drops (kl.map fun u=>(u.1,SV.dead.den ρ)) hsim fun u hu=>by
  obtain ⟨v,hv,rfl⟩:=Xm.1 hu
  obtain ⟨_,⟨d,q,hr⟩,_⟩:=hkl v hv
  obtain ⟨g1,g2,g3⟩:=Yx hr
  refine ⟨rfl,g2,JJ hsim (fun he=>?_) g3⟩
  rw [he] at hr
  rcases hr with hr | ⟨_,hr⟩ <;> cases hr
 rw [← ZgV] at hs
 refine h6 c hc _ tm w lim X' (fun _ _=>.inl rfl) (fun _ _=>rfl) rfl hs next Q fun v w' ha=>hn v w' ?_
 rw [XJ,hmap,Vn,← ZgV]
 exact ha
theorem Zg1:∀ (l:List SV) (ds:List Nat),Zd0 l=Xa ds→l.length=ds.length∧∀ (i d:Nat),ds[i]? = Xa d→l[i]? = Xa (.ptr d 0)
 | [], ds, h => by simp only [Zd0, Xf] at h; subst h; exact ⟨rfl, by simp⟩
 | x :: l, ds, h => by
  unfold Zd0 at h
  split at h
  ·rename_i heq;cases heq
  ·rename_i d r heq
   simp only [List.cons.injEq] at heq
   obtain ⟨rfl,rfl⟩:=heq
   cases hr:Zd0 l with
   | none => rw [hr] at h; cases h
   | some es =>
    rw [hr] at h
    simp only [Xv,Xf] at h
    subst h
    obtain ⟨h1,h2⟩:=Zg1 l es hr
    refine ⟨by simp [h1],fun i e he=>?_⟩
    cases i with
    | zero => simp only [XK, Xf] at he ⊢; rw [he]
    | succ i => simpa using h2 i e (by simpa using he)
  ·cases h
theorem Zin {fn:Fn} {first captured:Array Operand} (ho:o.op = .makeFunc fn first captured) (h:(Yk P E tx tk g o n k).wp P R A ρ):YN tx P R A ρ g o n k:=by
 simp only [Yk,ho] at h
 split at h
 ·rename_i f ds hf hds
  split at h
  ·rename_i hall
   obtain ⟨h1,h2⟩:=Zg1 _ _ hds
   refine Z7 h trivial (ZeN ho hf (by simpa using h1) fun i x d hx hd=>?_)
   have h3:=h2 i d hd
   rw [Xl,hx] at h3
   simp only [Xv,Xf] at h3
   rw [XC] at hall
   have h4:=hall d (Xj hd)
   refine ⟨Zi ρ h3,?_⟩
   show ∃ cs,(g d).den ρ = .box cs
   split at h4
   ·rename_i cs hcs;rw [hcs];exact ⟨_,rfl⟩
   ·cases h4
  ·exact h.elim
 ·exact h.elim
theorem ZmL {P:Program} (w:World) (d:Nat) {t e:TypeId} (a:Addr) (h:P.underlying t=Xa (.pointer e)):(Op.equalIn (d+1) t (.pointer (Xa a)) (.pointer Xe)).run P w = .ok Xc w:=by
 simp [Op.equalIn,run_underlying h]
theorem ZcG {P:Program} {o:Oper} {σ:Nat→AV} {op:BinOp} {T T' e:TypeId} {x:Operand} {d off:Nat} (ho:o.op = .binOp op T x (.const (.pointer Xe)) T') (hT:P.underlying T=Xa (.pointer e))
  (hop:op = .eql∨op = .neq) (hx:Zt P σ x = .ptr d off):JO P o σ (.val (.bool (if op = .eql then Xc else Xb))) [] []:=by
 refine ZK [] rfl fun c hc σ' tm w lim X hg _ hsim=>⟨.bool (if op = .eql then Xc else Xb),?_,.val rfl⟩
 rw [ho] at hg
 obtain ⟨b,cs,_,_,hv⟩:=Yj hc hsim hx (hg x (by simp [Op.operands]))
 have hc0:Act.eval ⟨tm,[]⟩ (.const (.pointer Xe)) = .pointer Xe:=rfl
 have he:(Op.equal T (.pointer (Xa ⟨b,off,Xe⟩)) (.pointer Xe)).run P w = .ok Xc w:=ZmL w 9999 _ hT
 rcases hop with rfl | rfl<;>simp [execOp,ho,hv,hc0,eqGuard,binOp,he]
theorem Zn7 {op:BinOp} {T T':TypeId} {x y:Operand} (hps:EnvSound P E) (hg:∀ d,(g d).bd n) (ho:o.op = .binOp op T x y T') (h:(Yk P E tx tk g o n k).wp P R A ρ):YN tx P R A ρ g o n k:=by
 simp only [Yk,ho] at h
 split at h
 ·rename_i b hb
  unfold ZpO at hb
  split at hb
  ·rename_i d off e hx hT
   split at hb
   ·simp only [Xf] at hb
    subst hb
    exact Z7 h trivial (ZcG (op:=.eql) ho hT (.inl rfl) (Zi ρ hx))
   ·simp only [Xf] at hb
    subst hb
    exact Z7 h trivial (ZcG (op:=.neq) ho hT (.inr rfl) (Zi ρ hx))
   ·cases hb
  ·cases hb
 ·exact Znx hps.1 hg ho h
theorem ZjF {l:List (List AV)} {k:Int} (h:ZnF .any l k=Xb):∃ kvs tl,l = [.slice Xc 2 kvs::tl]:=by
 unfold ZnF at h
 split at h
 ·exact ⟨_,_,rfl⟩
 ·cases h
theorem ZmR {l:List (List AV)} {k:Int} (h:ZnF .full l k=Xb):∃ kvs,l = [[.slice Xc 2 kvs]]:=by
 unfold ZnF at h
 split at h
 ·rename_i kvs tl
  obtain rfl:tl = []:=by simpa using h
  exact ⟨_,rfl⟩
 ·cases h
theorem ZnB {l:List (List AV)} {k:Int} (h:ZnF .at l k=Xb):∃ kvs tl,l = [.slice Xc 2 kvs::tl]∧∀ x∈tl,x = .val (.int .i64 k):=by
 unfold ZnF at h
 split at h
 ·rename_i kvs tl
  refine ⟨_,_,rfl,fun x hx=>?_⟩
  have:=XC.1 (show tl.all (Zrj k)=Xb from h) x hx
  unfold Zrj at this
  split at this
  ·rename_i z
   have hz:z=k:=by simpa using this
   rw [hz]
  ·cases this
 ·cases h
theorem Zme {l:List (List AV)} {k:Int} (h:ZnF .keys l k=Xb):∃ kvs,l = [[.slice Xc 2 kvs]]∧kvs.length≤1048576∧∀ r∈kvs,Zc2 r=Xb:=by
 unfold ZnF at h
 split at h
 ·rename_i kvs tl
  have h':tl.isEmpty=Xb∧kvs.length≤1048576∧kvs.all Zc2=Xb:=by simpa using h
  obtain rfl:tl = []:=by simpa using h'.1
  exact ⟨_,rfl,h'.2.1,XC.1 h'.2.2⟩
 ·cases h
theorem Zj8 {T:TypeId} {x:Option Operand} (ho:o.op = .makeMap T x) (h:(Yk P E tx tk g o n k).wp P R A ρ):YN tx P R A ρ g o n k:=by
 simp only [Yk,ho] at h
 split at h
 ·rename_i et het
  exact Z7 h (show (LE.bd n _) from ⟨trivial,trivial,trivial⟩) (ZfX ho het)
 ·rename_i hks
  split at h
  ·rename_i z hz
   split at h
   ·rename_i hlt
    exact Z7 h (show (LE.bd n _) from ⟨trivial,trivial,trivial⟩) (Zfy ho hz hks hlt)
   ·exact h.elim
  ·exact h.elim
 ·exact h.elim
theorem Zpr {z:Value} {sh:Sh} (hk:Zck z=Xa sh):∃ zc,ofC z=Xa zc∧zc.bd n∧∀ ρ,zc.den ρ = .val z:=by
 cases z<;>simp [Zck] at hk
 ·exact ⟨_,rfl,trivial,fun _=>rfl⟩
 ·exact ⟨_,rfl,trivial,fun _=>rfl⟩
theorem Zk6 {l:List (List AV)} {i:Int} (h:qop .mapv l i=Xb):∃ kvs,l = [[.slice Xc 2 kvs]]:=by
 simp only [qop] at h
 split at h
 ·exact ⟨_,rfl⟩
 ·cases h
theorem ZjT {T:TypeId} {m kx:Operand} {ok:Bool} {z:Value} (hg:∀ d,(g d).bd n) (ho:o.op = .lookup T m kx ok) (hz:KS P T=Xa z) (h:(ZhR P g T m kx ok z n k).wp P R A ρ):YN tx P R A ρ g o n k:=by
 unfold ZhR at h
 split at h
 case h_2=>exact h.elim
 rename_i d ke hks hm hk
 split at h
 case h_2=>exact h.elim
 rename_i zc sh e l hzc hsh hd
 split at h
 case isFalse=>exact h.elim
 rename_i hh
 obtain ⟨he,hlt,h0⟩:=hh
 obtain ⟨hq,vs,w1,w2,w3⟩:=h
 obtain ⟨kvs,hkv⟩:=Zk6 hq
 obtain ⟨zc',hzc',hzb,hzd⟩:=Zpr (n:=n) hsh
 rw [hzc] at hzc'
 cases hzc'
 have hd':(g d).den ρ = .own Xb e [[.slice Xc 2 kvs]]:=by rw [hd];show AV.own Xb e (l.den ρ)=_;rw [hkv]
 have hrow:ZbJ [[.slice Xc 2 kvs]] (ke.den ρ) [.val z]=(ZbJ (l.den ρ) (ke.den ρ) [zc.den ρ]):=by rw [hkv,hzd]
 have w2':(ZbJ [[.slice Xc 2 kvs]] (ke.den ρ) [.val z])[0]? = Xa ((ZF [sh,.bool] n).map (SC.den (bind ρ n vs))):=by rw [hrow];exact w2
 have hform:∃ a,ZbJ [[.slice Xc 2 kvs]] (ke.den ρ) [.val z] = [a]:=by
  unfold ZbJ
  split<;>exact ⟨_,rfl⟩
 obtain ⟨a,ha⟩:=hform
 rw [ha] at w2'
 simp only [XK,Xf,ZF,Xk,XL] at w2'
 subst w2'
 have hval:∃ u,(Jq sh n).den (bind ρ n vs) = .val u:=by
  cases z<;>simp [Zck] at hsh<;>subst hsh<;>exact ⟨_,rfl⟩
 obtain ⟨u,hu⟩:=hval
 rw [hu] at ha
 have ha:ZbJ [[.slice Xc 2 kvs]] (ke.den ρ) [.val z] = [[.val u,.val (.bool (bind ρ n vs (n+1)).bool)]]:=ha
 have hsb:(Jq sh n).bd (n+2):=by
  cases z<;>simp [Zck] at hsh<;>subst hsh<;>(show n < n+2;omega)
 cases ok with
 | false =>
  refine ⟨bind ρ n vs,n+2,.c (Jq sh n),[],[d],XX _ _,YG ρ n vs,hsb,by simp,w3,?_⟩
  have:=Zhl ho hz hks hlt (Zi ρ hm) (show (fun d=>(g d).den ρ) d=_ from hd') h0 he (Zi ρ hk) ha
  rw [← hu] at this
  exact this.t
 | true =>
  refine ⟨bind ρ n vs,n+2,.tuple [.c (Jq sh n),.c (.bool (.var (n+1)))],[],[d],XX _ _,YG ρ n vs,?_,by simp,w3,?_⟩
  ·intro c hc
   rcases Xu.1 hc with rfl | hc
   ·exact hsb
   ·rw [XH] at hc;subst hc;show n+1 < n+2;omega
  ·have:=Zcg ho hz hks hlt (Zi ρ hm) (show (fun d=>(g d).den ρ) d=_ from hd') h0 he (Zi ρ hk) ha
   rw [← hu] at this
   exact this.t
theorem Zj1 {T:TypeId} {m kx v:Operand} {z:Value} (hg:∀ d,(g d).bd n) (ho:o.op = .insert T m kx v∨o.op = .mapUpdate T m kx v) (hz:KS P T=Xa z) (h:(ZfC P g T m kx v z n k).wp P R A ρ):YN tx P R A ρ g o n k:=by
 unfold ZfC at h
 split at h
 case h_2=>exact h.elim
 rename_i d ke hks hm hk
 split at h
 case h_2=>exact h.elim
 rename_i sh c e l hsh hv hd
 split at h
 case isFalse=>exact h.elim
 rename_i hh
 obtain ⟨he,hlt,h0,hkd⟩:=hh
 obtain ⟨hq,h⟩:=h
 obtain ⟨kvs,hkv⟩:=Zk6 hq
 have bk:=ZM (P:=P) hg kx
 rw [hk] at bk
 have bv:=ZM (P:=P) hg v
 rw [hv] at bv
 have hl:=hg d
 rw [hd] at hl
 have hd':(g d).den ρ = .own Xb e [[.slice Xc 2 kvs]]:=by rw [hd];show AV.own Xb e (l.den ρ)=_;rw [hkv]
 have hval:∃ u,c.den ρ = .val u∧Yn u z=Xb:=by
  cases z<;>simp [Zck] at hsh<;>subst hsh<;>cases c<;>simp [ZjD] at hkd
  ·exact ⟨_,rfl,rfl⟩
  ·subst hkd;exact ⟨_,rfl,by simp [Yn]⟩
 obtain ⟨u,hu,hsk⟩:=hval
 refine Wy h trivial (us1 (show LE.bd n _ from ⟨hl,bk,trivial,bv,trivial⟩)) ?_
 have:=Zgh ho hz hks hlt (Zi ρ hm) (show (fun d=>(g d).den ρ) d=_ from hd') h0 he (Zi ρ hk) (show Zt P (fun d=>(g d).den ρ) v = .val u by rw [← hu];exact Zi ρ hv) hsk
 rw [← hkv,← hu] at this
 exact this
theorem Zmk {T:TypeId} {m kx:Operand} {ok:Bool} (hg:∀ d,(g d).bd n) (ho:o.op = .lookup T m kx ok) (h:(Yk P E tx tk g o n k).wp P R A ρ):YN tx P R A ρ g o n k:=by
 have bk:=ZM (P:=P) hg kx
 simp only [Yk,ho] at h
 split at h
 ·rename_i z hz
  exact ZjT hg ho hz h
 cases ok with
 | true => exact h.elim
 | false =>
  simp only [ZjC] at h
  split at h
  ·rename_i et d ke het hm hk
   rw [hk] at bk
   split at h
   ·rename_i e l hd
    have hl:=hg d
    rw [hd] at hl
    split at h
    ·rename_i hh
     obtain ⟨h1,h2,h3⟩:=hh
     have hd':(g d).den ρ = .own Xb e (l.den ρ):=by rw [hd];rfl
     split at h
     ·obtain ⟨hq,h⟩:=h
      obtain ⟨kvs,hkv⟩:=ZmR hq
      refine Wy h (show LE.bd n _ from ⟨hl,bk⟩) (us1 (show LE.bd n _ from ⟨hl,bk⟩)) ?_
      have:=ZbC ho het h3 (Zi ρ hm) (by rw [hd',hkv]) h2 h1 (Zi ρ hk)
      rw [← hkv] at this
      exact this
     ·obtain ⟨hq,h⟩:=h
      obtain ⟨kvs,tl,hkv⟩:=ZjF hq
      refine Z7 h (show LE.bd n _ from ⟨hl,bk⟩) ?_
      have:=Zio ho het h3 (Zi ρ hm) (by rw [hd',hkv]) h2 h1 (Zi ρ hk)
      rw [← hkv] at this
      exact this
    ·exact h.elim
   ·exact h.elim
  ·exact h.elim
theorem Zhb {T:TypeId} {m kx v:Operand} (hg:∀ d,(g d).bd n) (ho:o.op = .insert T m kx v∨o.op = .mapUpdate T m kx v) (h:(Yk P E tx tk g o n k).wp P R A ρ):YN tx P R A ρ g o n k:=by
 have bk:=ZM (P:=P) hg kx
 cases hz:KS P T with
 | some z => exact Zj1 hg ho hz (by rcases ho with ho | ho <;> simpa only [Yk, ho, hz] using h)
 | none =>
 have h:(Zb5 P g T m kx v n k).wp P R A ρ:=by rcases ho with ho | ho<;>simpa only [Yk,ho,hz] using h
 unfold Zb5 at h
 split at h
 ·rename_i et d ke het hm hk
  rw [hk] at bk
  split at h
  ·rename_i e l hd
   have hl:=hg d
   rw [hd] at hl
   split at h
   ·rename_i hh
    obtain ⟨h1,h2⟩:=hh
    have hd':(g d).den ρ = .own Xb e (l.den ρ):=by rw [hd];rfl
    split at h
    ·rename_i t et' ys hsl hgt
     have hv:v = .tmp t:=by cases v<;>simp_all [Z0]
     rw [hsl] at hgt
     have hgt:g t = .own Xc et' ys:=by simpa using hgt
     have hy:=hg t
     rw [hgt] at hy
     split at h
     ·rename_i hee
      subst hee
      obtain ⟨hq,h⟩:=h
      obtain ⟨kvs,tl,hkv,htl⟩:=ZnB hq
      subst hv
      refine Wy h trivial (us2 hy (show LE.bd n _ from ⟨hl,bk,hy⟩)) ?_
      have:=Zif ho het (Zi ρ hm) (by rw [hd',hkv]) h2 h1 (Zi ρ hk) htl (show (fun d=>(g d).den ρ) t = .own Xc et' (ys.den ρ) by show (g t).den ρ=_;rw [hgt];rfl)
      rw [← hkv] at this
      exact this
     ·exact h.elim
    ·split at h
     ·rename_i s hgv
      obtain ⟨hq,h⟩:=h
      obtain ⟨kvs,tl,hkv,htl⟩:=ZnB hq
      refine Wy h trivial (us1 (show LE.bd n _ from ⟨hl,bk,trivial⟩)) ?_
      have:=ZdA ho het (Zi ρ hm) (by rw [hd',hkv]) h2 h1 (Zi ρ hk) htl (Zi ρ hgv)
      rw [← hkv] at this
      exact this
     ·exact h.elim
   ·exact h.elim
  ·exact h.elim
 ·exact h.elim
theorem Zmy {f:FuncId} {args:List Operand} {d:Nat} {gf:FuncId} {l:LE} (h:Zjs P E g f args=Xa (d,gf,l)) :
  ∃ x p e,args = [x]∧p∈E.ks∧p.1=f∧p.2.2=gf∧Ju P g x = .mref d 0∧g d = .own Xb e l∧P.cellsOf e=0∧(JD P (e-1048576)).isSome=Xb:=by
 unfold Zjs at h
 split at h
 ·cases h
 ·split at h
  ·rename_i x p hp
   split at h
   ·rename_i d' hx
    split at h
    ·rename_i e l' hd
     split at h
     ·rename_i hm
      simp only [Xf,Xo] at h
      obtain ⟨rfl,rfl,rfl⟩:=h
      refine ⟨x,p,e,rfl,List.mem_of_find?_eq_some hp,?_,rfl,hx,hd,hm.2,hm.1⟩
      simpa using List.find?_some hp
     ·cases h
    ·cases h
   ·cases h
  ·cases h
theorem ZhM {f:FuncId} {args:List Operand} {d:Nat} {l:LE} (h:ZbQ P E g f args=Xa (d,l)) :
  ∃ x p e,args = [x]∧p∈E.ks∧p.2.1=f∧Ju P g x = .eref d 0 (.lit 0) 0 p.2.2∧g d = .own Xb e l∧P.cellsOf e=0∧(JD P (e-1048576)).isSome=Xb:=by
 unfold ZbQ at h
 split at h
 ·cases h
 ·split at h
  ·rename_i x
   split at h
   ·rename_i d' gf hx
    split at h
    ·rename_i e l' hd
     split at h
     ·rename_i hm
      simp only [Xf,Xo] at h
      obtain ⟨rfl,rfl⟩:=h
      obtain ⟨p,hp,hpq⟩:=UJ.1 hm.2.2
      simp only [Xx,beq_iff_eq] at hpq
      exact ⟨x,p,e,rfl,hp,hpq.1,by rw [hpq.2];exact hx,hd,hm.2.1,hm.1⟩
     ·cases h
    ·cases h
   ·cases h
  ·cases h
theorem ZqP {c:Call} {f:FuncId} {d:Nat} {gf:FuncId} {l:LE} (hps:EnvSound P E) (ho:o.op = .call c) (hc:c.callee = .value (.func f)) (hit:Zjs P E g f c.args.toList=Xa (d,gf,l))
  (h:(STree.req (.mq .any l (.lit 0)) (k (.eref d 0 (.lit 0) 0 gf) [] [d] n)).wp P R A ρ):YN tx P R A ρ g o n k:=by
 obtain ⟨x,p,e,h1,h2,rfl,rfl,h5,h6,h7,h8⟩:=Zmy hit
 obtain ⟨hq,h⟩:=h
 obtain ⟨kvs,tl,hkv⟩:=ZjF hq
 refine Z7 h trivial ?_
 have:=Zlq (d:=d) hps.2.1 h2 ho hc h1 (Zi ρ h5) (by show (g d).den ρ=_;rw [h6];show AV.own Xb e (l.den ρ)=_;rw [hkv]) h7 h8
 simpa [SV.den,IE.den] using this
theorem Zm9 {c:Call} {f:FuncId} {d:Nat} {l:LE} (hps:EnvSound P E) (hg:∀ d,(g d).bd n) (ho:o.op = .call c) (hc:c.callee = .value (.func f)) (hit:ZbQ P E g f c.args.toList=Xa (d,l))
  (h:(STree.req (.mq .keys l (.lit 0)) (k (.c (.slice Xc 1 (.mkeys l))) [] [d] n)).wp P R A ρ):YN tx P R A ρ g o n k:=by
 obtain ⟨x,p,e,h1,h2,rfl,h5,h6,h7,h8⟩:=ZhM hit
 obtain ⟨hq,h⟩:=h
 obtain ⟨kvs,hkv,hlen,hfine⟩:=Zme hq
 have hl:=hg d
 rw [h6] at hl
 refine Z7 h (show LE.bd n _ from hl) ?_
 have hx:Zt P (fun d=>(g d).den ρ) x = .eref d 0 p.2.2:=by have:=Zi ρ h5;simpa [SV.den,IE.den] using this
 have:=ZhG (d:=d) hps.2.1 h2 ho hc h1 hx (by show (g d).den ρ=_;rw [h6];show AV.own Xb e (l.den ρ)=_;rw [hkv]) h7 h8 hlen hfine
 rw [← hkv] at this
 exact this
theorem Zky {f:FuncId} {args:List Operand} {d:Nat} {e:TypeId} {l:LE} (h:ZfG P E g f args=Xa (d,e,l)) :
  ∃ x,args = [x]∧f∈E.srt∧Ju P g x = .mref d 0∧g d = .own Xb e l∧P.cellsOf e=1∧Zk P e=Xc:=by
 unfold ZfG at h
 split at h
 ·cases h
 ·rename_i hf
  split at h
  ·rename_i x
   split at h
   ·rename_i d' hx
    split at h
    ·rename_i e' l' hd _
     split at h
     ·rename_i hm
      simp only [Xf,Xo] at h
      obtain ⟨rfl,rfl,rfl⟩:=h
      exact ⟨x,rfl,by simpa using hf,hx,hd,hm.1,hm.2⟩
     ·cases h
    ·cases h
   ·cases h
  ·cases h
theorem ZsL {c:Call} {f:FuncId} {d:Nat} {e:TypeId} {l:LE} (hps:EnvSound P E) (hg:∀ d,(g d).bd n) (ho:o.op = .call c) (hc:c.callee = .value (.func f)) (hit:ZfG P E g f c.args.toList=Xa (d,e,l))
  (h:(STree.req (.lq .ints l (.lit 0)) (k .dead [(d,.own Xb e (.fn .dsort l (.lit 0) .nil .nil))] [d] n)).wp P R A ρ):YN tx P R A ρ g o n k:=by
 obtain ⟨x,h1,h2,h3,h4,h5,h6⟩:=Zky hit
 obtain ⟨hq,h⟩:=h
 have hq:((l.den ρ).all ZgY&&decide ((l.den ρ).length≤1048576))=Xb:=hq
 rw [Xx,decide_eq_true_eq] at hq
 obtain ⟨zs,hz⟩:=Zlr hq.1
 have hl:=hg d
 rw [h4] at hl
 have hl:l.bd n:=hl
 refine Wy h trivial (us1 (show LE.bd n _ from ⟨hl,trivial,trivial,trivial⟩)) ?_
 have:=Zpi (d:=d) (σ:=fun d=>(g d).den ρ) hps.2.2 h2 ho hc h1 (Zi ρ h3) (by show (g d).den ρ=_;rw [h4];show AV.own Xb e (l.den ρ)=_;rw [hz]) h5 h6 (by have:=hq.2;rw [hz,Xi] at this;exact this)
 rw [← hz] at this
 exact this
theorem Zkt (hps:EnvSound P E) (hg:∀ d,(g d).bd n) (htop:∀ i,E.top≤i→g i = .dead) (h:(Yk P E tx tk g o n k).wp P R A ρ):YN tx P R A ρ g o n k:=by
 cases ho:o.op with
 | move x => exact ZqH hg htop ho h
 | assign x => exact Zm6 hg htop ho h
 | pick c a b => exact Zrw hg ho h
 | alloc T => exact Zo7 ho h
 | box T x => exact Zr0 hg ho h
 | build T parts => exact ZnJ hg htop ho h
 | buildSlice T len parts => exact Zfw hg ho h
 | load T a => exact ZqD hg htop ho h
 | store T a x => exact Zpp hg htop ho h
 | nilCheck x => exact Zid hg ho h
 | binOp op T x y T' => exact Zn7 hps hg ho h
 | unOp op T x => exact Zrp hg ho h
 | convert S T x => exact Zj6 hg ho h
 | fieldAddr T x f => exact ZfT hg ho h
 | field T x f => exact Zpb hg ho h
 | indexAddr T x i => exact Zgg hg ho h
 | makeSlice T a b => exact ZrI hg ho h
 | makeFunc fn first captured => exact Zin ho h
 | makeMap T x => exact Zj8 ho h
 | lookup T m kx ok => exact Zmk hg ho h
 | insert T m kx v => exact Zhb hg (.inl ho) h
 | mapUpdate T m kx v => exact Zhb hg (.inr ho) h
 | slice T x lo hi mx => exact ZoR hg htop ho h
 | extract x i => exact Zj4 hg ho h
 | call c =>
  cases hc:c.callee with
  | builtin b =>
   cases b with
   | len => exact Zsp hg ho hc h
   | append => exact Zlw hg htop ho hc h
   | copy => exact ZqW hg ho hc h
   | min => exact ZsA hg ho hc h
   | max => exact Zr5 hg ho hc h
   | _ => simp only [Yk, ho, hc] at h; exact h.elim
  | value x =>
   cases x with
   | func f =>
    simp only [Yk,ho,hc] at h
    split at h
    ·rename_i hit
     exact ZqP hps ho hc hit h
    split at h
    ·rename_i hit
     exact Zm9 hps hg ho hc hit h
    split at h
    ·rename_i hit
     exact ZsL hps hg ho hc hit h
    split at h
    case h_2=>
     rename_i hkl
     split at h
     case isFalse=>exact h.elim
     rename_i hall
     rw [XC] at hall
     cases htx:tx with
     | any N M => exact (hkl (by rw [htx]; rfl)).elim
     | text =>
     subst htx
     refine ZkR (ZbO E .text g (E.rfs f) c.args.toList) (fun u hu=>?_) ?_
     ·obtain ⟨k1,k2⟩:=Zil ρ hu
      exact ⟨k1,k2,by simpa using hall u hu⟩
     ·split at h
      ·rename_i aZ has
       obtain ⟨h1,h2,h3⟩:=ZaE ρ _ _ _ has
       refine Zih (ds:=[]) (fun i hi=>by unfold Zhg;split;rfl;exact htop i hi) ho (.inl ⟨hc,rfl⟩) (by simpa using h1) h2 (fun i x hx hci=>?_) h
       have hl:i < aZ.length:=by rw [← h1.1,Xi];exact (Xn.1 hx).1
       obtain ⟨t,d,q,j,e⟩:=h3 i _ x hx (Xq hl) (by rw [XM];exact hci)
       exact ⟨t,d,q,j,by rw [Xq hl,e]⟩
      ·exact h.elim
    split at h
    ·rename_i aZ has
     obtain ⟨h1,h2,h3⟩:=ZaE ρ _ _ _ has
     refine Zih (ds:=[]) htop ho (.inl ⟨hc,rfl⟩) (by simpa using h1) h2 (fun i x hx hci=>?_) h
     have hl:i < aZ.length:=by rw [← h1.1,Xi];exact (Xn.1 hx).1
     obtain ⟨t,d,q,j,e⟩:=h3 i _ x hx (Xq hl) (by rw [XM];exact hci)
     exact ⟨t,d,q,j,by rw [Xq hl,e]⟩
    ·exact h.elim
   | tmp t =>
    simp only [Yk,ho,hc] at h
    split at h
    ·rename_i f ds aZ ht has
     obtain ⟨h1,h2,_⟩:=ZaE ρ _ _ _ has
     split at h
     ·rename_i cs hcs
      obtain ⟨k1,k2⟩:=ZrH (P:=P) ρ hcs
      refine Zih (ds:=ds) htop ho (.inr ⟨t,hc,by rw [ht];rfl⟩) (h1.append k1) (fun a ha=>?_) (fun i _ _ hi=>by simp at hi) h
      rcases Xs.1 ha with ha | ha
      ·exact h2 a ha
      ·exact k2 a ha
     ·exact h.elim
    ·exact h.elim
   | _ => simp only [Yk, ho, hc] at h; exact h.elim
  | _ => simp only [Yk, ho, hc] at h; exact h.elim
 | _ => simp only [Yk, ho] at h; exact h.elim
end
structure Stp where
 F:List Nat
 ups:List (Nat×AV)
def ZrB (T:Odr) (P:Program) (nt:Nat) (ops:Array Oper) (B:Nat→Prop) (i:Nat) (pre:Nat→AV) (s:Stp):Prop:=
 (∀ u∈s.ups,u.1∈s.F)∧(∀ u∈s.ups,B u.1→Zd7 u.2)∧(∀ u∈s.ups,∀ d k,T.nr d u.1=Xb→¬ Jl u.2 d k)∧(∀ u∈s.ups,∀ j,T.kp u.1 j=Xb→Jw u.2 j=Jw (pre u.1) j)∧
 ∀ (c:Ctx),c.P=P→c.nt=nt→∀ (σ':Nat→AV) (tm:Array Value) (w:World) (lim:Nat→Nat) (X:Nat→Nat→Option Nat),
  (∀ d∈s.F,σ' d=pre d)→(∀ d,B d→Zd7 (σ' d))→T.rel pre σ'→Sim c σ' tm w lim X→∀ (Q:Exit→Act→World→Prop) (K:Act→World→Prop),
   (∀ tm' w' lim' X',Sim c (JC σ' s.ups) tm' w' lim' X'→K ⟨tm',[]⟩ w')→wpOp P ops Q i K ⟨tm,[]⟩ w
def Zf4 (T:Odr) (P:Program) (nt:Nat) (ops:Array Oper) (B:Nat→Prop):Nat→(Nat→AV)→List Stp→Prop
 | _, _, [] => True
 | i, σ, s :: ss => ZrB T P nt ops B i σ s ∧ Zf4 T P nt ops B (i + 1) (JC σ s.ups) ss
theorem ZeR {B:Nat→Prop} : ∀ (us:List (Nat×AV)) (σ:Nat→AV),(∀ u∈us,B u.1→Zd7 u.2)→(∀ d,B d→Zd7 (σ d))→∀ d,B d→Zd7 (JC σ us d)
 | [], _, _, h, d, hd => h d hd
 | (e, x) :: us, σ, hu, h, d, hd => by
  refine ZeR us (upd σ e x) (fun u h'=>hu u (by simp [h'])) (fun d hd=>?_) d hd
  by_cases he:d=e
  ·subst he;rw [ZC];exact hu (d,x) (by simp) hd
  ·rw [Zf _ _ he];exact h d hd
def Zgu (σ:Nat→AV):List Stp→(Nat→AV)
 | [] => σ
 | s :: ss => Zgu (JC σ s.ups) ss
section
variable {T:Odr} {P:Program} {nt:Nat} {ops:Array Oper} {B:Nat→Prop} {Q:Exit→Act→World→Prop} {c:Ctx}
theorem Wk (hc:c.P=P) (hn:c.nt=nt):∀ (ss:List Stp) (i:Nat) (σ:Nat→AV) (tm:Array Value) (w:World) (lim:Nat→Nat) (X:Nat→Nat→Option Nat),
  Zf4 .text P nt ops B i σ ss→(∀ d,B d→Zd7 (σ d))→Sim c σ tm w lim X→(∀ tm' w' lim' X',Sim c (Zgu σ ss) tm' w' lim' X'→Q .normal ⟨tm',[]⟩ w')→wpOps P ops Q (List.range' i ss.length) ⟨tm,[]⟩ w
 | [], i, σ, tm, w, lim, X, _, _, hs, hk => by
  show Q .normal ⟨tm,[]⟩ w
  exact hk tm w lim X hs
 | s :: ss, i, σ, tm, w, lim, X, h, hb, hs, hk => by
  rw [XN,List.range'_succ,wpOps_cons]
  exact h.1.2.2.2.2 c hc hn σ tm w lim X (fun _ _=>rfl) hb rfl hs Q _ fun tm' w' lim' X' hs'=>Wk hc hn ss (i+1) _ tm' w' lim' X' h.2 (ZeR _ _ h.1.2.1 hb) hs' hk
def Zbc:List (Nat×AV)→Nat→Option AV
 | [], _ => Xe
 | (e, x) :: us, d => match Zbc us d with | some y => Xa y | none => if d = e then Xa x else Xe
theorem JM:∀ (us:List (Nat×AV)) (σ:Nat→AV) (d:Nat),JC σ us d=(Zbc us d).getD (σ d)
 | [], σ, d => rfl
 | (e, x) :: us, σ, d => by
  simp only [JC,Zbc,JM us]
  cases Zbc us d with
  | some y => rfl
  | none =>
   by_cases h:d=e
   ·subst h;simp [upd]
   ·simp [upd,h]
theorem Kk:∀ (us:List (Nat×AV)) (d:Nat),d∉us.map (·.1)→Zbc us d=Xe
 | [], d, _ => rfl
 | (e, x) :: us, d, h => by
  simp only [Xk,Xu,not_or] at h
  simp only [Zbc,Kk us d h.2,if_neg h.1]
theorem Wt:∀ (us:List (Nat×AV)) (d:Nat),d∈us.map (·.1)→∃ x,Zbc us d=Xa x
 | [], d, h => by simp at h
 | (e, x) :: us, d, h => by
  simp only [Zbc]
  cases hl:Zbc us d with
  | some y => exact ⟨y, rfl⟩
  | none =>
   simp only [Xk,Xu] at h
   rcases h with h | h
   ·subst h;exact ⟨x,by simp⟩
   ·obtain ⟨y,hy⟩:=Wt us d h;rw [hl] at hy;cases hy
def comp (S:Nat→Bool):Nat→(Nat→AV)→List Stp→(Nat→AV)
 | _, σ, [] => σ
 | i, σ, s :: ss => comp S (i + 1) (if S i = Xb then JC σ s.ups else σ) ss
theorem Zjr (S:Nat→Bool):∀ (ss:List Stp) (i:Nat) (σ:Nat→AV),(∀ j,i≤j→j < i+ss.length→S j=Xb)→comp S i σ ss=Zgu σ ss
 | [], _, _, _ => rfl
 | s :: ss, i, σ, h => by
  simp only [comp,Zgu,h i (XA _) (by simp),if_true]
  exact Zjr S ss (i+1) _ fun j h1 h2=>h j (by omega) (by simp only [XN];omega)
theorem Zcp (S:Nat→Bool):∀ (ss:List Stp) (i:Nat) (σ:Nat→AV),(∀ j,i≤j→j < i+ss.length→S j=Xc)→comp S i σ ss=σ
 | [], _, _, _ => rfl
 | s :: ss, i, σ, h => by
  simp only [comp,h i (XA _) (by simp),U5,if_false]
  exact Zcp S ss (i+1) _ fun j h1 h2=>h j (by omega) (by simp only [XN];omega)
theorem Wf {d:Nat} (S T:Nat→Bool):∀ (ss:List Stp) (i:Nat) (σ τ:Nat→AV),σ d=τ d→(∀ (j:Nat) (s:Stp),ss[j]? = Xa s→d∈s.ups.map (·.1)→S (i+j)=T (i+j))→comp S i σ ss d=comp T i τ ss d
 | [], _, _, _, h, _ => h
 | s :: ss, i, σ, τ, h, hS => by
  simp only [comp]
  refine Wf S T ss (i+1) _ _ ?_ fun j s' hs' hd=>by
   have:=hS (j+1) s' (by simpa using hs') hd
   rw [show i+1+j=i+(j+1) by omega]
   exact this
  by_cases hd:d∈s.ups.map (·.1)
  ·have h0:=hS 0 s rfl hd
   rw [Ug] at h0
   rw [h0]
   split
   ·rw [JM,JM,h]
   ·exact h
  ·have hl:=Kk s.ups d hd
   split<;>split<;>first
    | (rw [JM, JM, hl]; exact h)
    | (rw [JM, hl]; exact h)
    | exact h
theorem Zds:∀ (ss:List Stp) (i:Nat) (σ:Nat→AV) (m:Nat),comp (fun j=>decide (j < i+m)) i σ ss=Zgu σ (ss.take m)
 | [], i, σ, m => by simp [comp, Zgu]
 | s :: ss, i, σ, 0 => by
  rw [List.take_zero]
  exact Zcp _ (s::ss) i σ fun j h1 _=>by simp;omega
 | s :: ss, i, σ, m + 1 => by
  simp only [comp,List.take_succ_cons,Zgu,decide_eq_true_eq]
  rw [if_pos (by omega),← Zds ss (i+1)]
  congr 1
  funext j
  rw [show i+1+m=i+(m+1) by omega]
theorem ZmU (S:Nat→Bool):∀ (ss:List Stp) (i:Nat) (σ:Nat→AV),(∀ s∈ss,∀ u∈s.ups,B u.1→Zd7 u.2)→(∀ d,B d→Zd7 (σ d))→∀ d,B d→Zd7 (comp S i σ ss d)
 | [], _, _, _, h, d, hd => h d hd
 | s :: ss, i, σ, hu, h, d, hd => by
  simp only [comp]
  refine ZmU S ss (i+1) _ (fun s' hs'=>hu s' (by simp [hs'])) (fun d hd=>?_) d hd
  split
  ·exact ZeR _ _ (hu s (by simp)) h d hd
  ·exact h d hd
theorem Zgn:∀ (ss:List Stp) (i:Nat) (σ:Nat→AV),Zf4 T P nt ops B i σ ss→∀ s∈ss,∀ u∈s.ups,B u.1→Zd7 u.2
 | [], _, _, _, s, hs => by simp at hs
 | s0 :: ss, i, σ, h, s, hs => by
  rcases Xu.1 hs with rfl | hs
  ·exact h.1.2.1
  ·exact Zgn ss (i+1) _ h.2 s hs
theorem Zk2:∀ (us:List (Nat×AV)) (σ:Nat→AV),(∀ u∈us,∀ d k,T.nr d u.1=Xb→¬ Jl u.2 d k)→(∀ d i k,T.nr d i=Xb→¬ Jl (σ i) d k)→∀ d i k,T.nr d i=Xb→¬ Jl (JC σ us i) d k
 | [], _, _, h => h
 | (e, x) :: us, σ, hu, h => by
  refine Zk2 us (upd σ e x) (fun u h'=>hu u (by simp [h'])) fun d i k hd=>?_
  by_cases he:i=e
  ·subst he;rw [ZC];exact hu (i,x) (by simp) d k hd
  ·rw [Zf _ _ he];exact h d i k hd
theorem Znl (S:Nat→Bool):∀ (ss:List Stp) (i:Nat) (σ:Nat→AV),(∀ s∈ss,∀ u∈s.ups,∀ d k,T.nr d u.1=Xb→¬ Jl u.2 d k)→(∀ d i k,T.nr d i=Xb→¬ Jl (σ i) d k)→∀ d j k,T.nr d j=Xb→¬ Jl (comp S i σ ss j) d k
 | [], _, _, _, h => h
 | s :: ss, i, σ, hu, h => by
  simp only [comp]
  refine Znl S ss (i+1) _ (fun s' hs'=>hu s' (by simp [hs'])) ?_
  split
  ·exact Zk2 _ _ (hu s (by simp)) h
  ·exact h
theorem Zi5:∀ (ss:List Stp) (i:Nat) (σ:Nat→AV),Zf4 T P nt ops B i σ ss→∀ s∈ss,∀ u∈s.ups,∀ d k,T.nr d u.1=Xb→¬ Jl u.2 d k
 | [], _, _, _, s, hs => by simp at hs
 | s0 :: ss, i, σ, h, s, hs => by
  rcases Xu.1 hs with rfl | hs
  ·exact h.1.2.2.1
  ·exact Zi5 ss (i+1) _ h.2 s hs
theorem ZeX {τ:Nat→AV} : ∀ (us:List (Nat×AV)) (σ:Nat→AV),(∀ u∈us,∀ j,T.kp u.1 j=Xb→Jw u.2 j=Jw (τ u.1) j)→(∀ d j,T.kp d j=Xb→Jw (σ d) j=Jw (τ d) j)→∀ d j,T.kp d j=Xb→Jw (JC σ us d) j=Jw (τ d) j
 | [], _, _, h => h
 | (e, x) :: us, σ, hu, h => by
  refine ZeX us (upd σ e x) (fun u h'=>hu u (by simp [h'])) fun d j hd=>?_
  by_cases he:d=e
  ·subst he;rw [ZC];exact hu (d,x) (by simp) j hd
  ·rw [Zf _ _ he];exact h d j hd
theorem Zlc (S:Nat→Bool):∀ (ss:List Stp) (i:Nat) (τ σ:Nat→AV),(∀ s∈ss,∀ u∈s.ups,∀ j,T.kp u.1 j=Xb→Jw u.2 j=Jw (τ u.1) j)→(∀ d j,T.kp d j=Xb→Jw (σ d) j=Jw (τ d) j)→∀ d j,T.kp d j=Xb→Jw (comp S i σ ss d) j=Jw (τ d) j
 | [], _, _, _, _, h => h
 | s :: ss, i, τ, σ, hu, h => by
  simp only [comp]
  refine Zlc S ss (i+1) τ _ (fun s' hs'=>hu s' (by simp [hs'])) ?_
  split
  ·exact ZeX _ _ (hu s (by simp)) h
  ·exact h
theorem ZlM:∀ (ss:List Stp) (τ σ:Nat→AV),(∀ s∈ss,∀ u∈s.ups,∀ j,T.kp u.1 j=Xb→Jw u.2 j=Jw (τ u.1) j)→(∀ d j,T.kp d j=Xb→Jw (σ d) j=Jw (τ d) j)→∀ d j,T.kp d j=Xb→Jw (Zgu σ ss d) j=Jw (τ d) j
 | [], _, _, _, h => h
 | s :: ss, τ, σ, hu, h => by
  simp only [Zgu]
  exact ZlM ss τ _ (fun s' hs'=>hu s' (by simp [hs'])) (ZeX _ _ (hu s (by simp)) h)
theorem ZeQ:∀ (ss:List Stp) (i:Nat) (σ:Nat→AV),Zf4 T P nt ops B i σ ss→∀ s∈ss,∀ u∈s.ups,∀ j,T.kp u.1 j=Xb→Jw u.2 j=Jw (σ u.1) j
 | [], _, _, _, s, hs => by simp at hs
 | s0 :: ss, i, σ, h, s, hs => by
  rcases Xu.1 hs with rfl | hs
  ·exact h.1.2.2.2.1
  ·intro u hu j hj
   rw [ZeQ ss (i+1) _ h.2 s hs u hu j hj]
   exact ZeX s0.ups σ (τ:=σ) h.1.2.2.2.1 (fun _ _ _=>rfl) u.1 j hj
theorem Zjl:∀ (ss:List Stp) (i:Nat) (σ:Nat→AV),Zf4 T P nt ops B i σ ss→∀ (j:Nat) (s:Stp),ss[j]? = Xa s→ZrB T P nt ops B (i+j) (Zgu σ (ss.take j)) s
 | [], _, _, _, j, s, h => by simp at h
 | s0 :: ss, i, σ, hc, 0, s, h => by
  simp only [XK,Xf] at h
  subst h
  exact hc.1
 | s0 :: ss, i, σ, hc, j + 1, s, h => by
  have:=Zjl ss (i+1) _ hc.2 j s (by simpa using h)
  rw [show i+(j+1)=i+1+j by omega]
  exact this
theorem Znr (hc:c.P=P) (hn:c.nt=nt) {N:Nat→Bool} {M:Nat→Option Nat} {K:List (Nat×Nat)} {ss:List Stp} {σ:Nat→AV} (hch:Zf4 (.any N M K) P nt ops B 0 σ ss) (hN:∀ d i k,(Odr.any N M K).nr d i=Xb→¬ Jl (σ i) d k) (hpb:∀ d,B d→Zd7 (σ d)) (hlen:ss.length=ops.size)
  (hlow:∀ (i:Nat) (o:Oper),ops[i]? = Xa o→∀ e∈o.after,Region.binds .any e=Xb→e.on < i)
  (hind:∀ (i j:Nat) (a b:Stp),ss[i]? = Xa a→ss[j]? = Xa b→j < i→(∃ S:Nat→Prop,(∀ k o,ops[k]? = Xa o→S k→∀ e∈o.after,Region.binds .any e=Xb→S e.on)∧S i∧¬ S j)→
   (∀ d∈b.ups.map (·.1),d∉a.F)∧∀ d∈a.ups.map (·.1),d∉b.F) (hfin:∀ tm' w' lim' X',Sim c (Zgu σ ss) tm' w' lim' X'→Q .normal ⟨tm',[]⟩ w') :
  ∀ (fuel:Nat) (listed:Array Bool) (tm:Array Value) (w:World) (lim:Nat→Nat) (X:Nat→Nat→Option Nat),listed.size=ops.size→
   (∀ k o,ops[k]? = Xa o→listed.getD k Xc=Xb→∀ e∈o.after,Region.binds .any e=Xb→listed.getD e.on Xc=Xb)→
   ((Un ops.size).countP (fun i=>!listed.getD i Xc)≤fuel)→
   Sim c (comp (fun i=>listed.getD i Xc) 0 σ ss) tm w lim X→wpAny P .any ops Q fuel listed ⟨tm,[]⟩ w:=by
 -- where nothing is ready, all is done
 have hdone:∀ (listed:Array Bool),listed.size=ops.size→Region.ready .any ops listed = []→∀ j,j < ops.size→listed.getD j Xc=Xb:=by
  intro listed hsz hr j
  induction j using Nat.strongRecOn with
  | _ j ih =>
   intro hj
   cases hl:listed.getD j Xc with
   | true => rfl
   | false =>
    have:j∈Region.ready .any ops listed:=by
     rw [mem_ready]
     refine ⟨?_,ops[j],X8 hj,fun e he hb=>?_⟩
     ·simp only [Uc,hsz,hj,dite_true] at hl ⊢
      exact hl
     ·have hlt:=hlow j _ (X8 hj) e he hb
      exact ih e.on hlt (by omega)
    rw [hr] at this
    cases this
 have hend:∀ (listed:Array Bool) (tm:Array Value) (w:World) (lim:Nat→Nat) (X:Nat→Nat→Option Nat),listed.size=ops.size→Region.ready .any ops listed = []→
   Sim c (comp (fun i=>listed.getD i Xc) 0 σ ss) tm w lim X→Q .normal ⟨tm,[]⟩ w:=by
  intro listed tm w lim X hsz hr hs
  rw [Zjr _ ss 0 σ fun j _ h2=>hdone listed hsz hr j (by omega)] at hs
  exact hfin tm w lim X hs
 intro fuel
 induction fuel with
 | zero =>
  intro listed tm w lim X hsz hcl hcnt hs
  have hall:∀ j,j < ops.size→listed.getD j Xc=Xb:=by
   intro j hj
   have h0:(Un ops.size).countP (fun i=>!listed.getD i Xc)=0:=by omega
   have:=(List.countP_eq_zero.1 h0) j (by simpa using hj)
   simpa using this
  have hr:Region.ready .any ops listed = []:=by
   refine TX.2 fun j hj=>?_
   obtain ⟨h1,o,h2,_⟩:=mem_ready.1 hj
   have hlt:=(Ua.1 h2).1
   have:=hall j hlt
   simp only [Uc,hsz,hlt,dite_true] at h1 this
   rw [h1] at this
   cases this
  exact ⟨hr,hend listed tm w lim X hsz hr hs⟩
 | succ fuel ih =>
  intro listed tm w lim X hsz hcl hcnt hs
  refine ⟨fun hr=>hend listed tm w lim X hsz hr hs,fun i hi=>?_⟩
  obtain ⟨h1,o,h2,h3⟩:=mem_ready.1 hi
  have hlt:=(Ua.1 h2).1
  have hun:listed.getD i Xc=Xc:=by
   simp only [Uc,hsz,hlt,dite_true] at h1 ⊢
   exact h1
  obtain ⟨s,hsi⟩:∃ s,ss[i]? = Xa s:=⟨_,Xq (by omega)⟩
  have hst:=Zjl ss 0 σ hch i s hsi
  rw [XM] at hst
  have hset:∀ j,(listed.setIfInBounds i Xb).getD j Xc=if j=i then Xb else listed.getD j Xc:=by
   intro j
   by_cases hji:j=i
   ·subst hji
    simp [Uc,hsz,hlt]
   ·rw [if_neg hji,getD_set_ne Xc (Ne.symm hji)]
  -- i is not before what is listed
  have hnot:∀ j,listed.getD j Xc=Xb→∃ S:Nat→Prop,(∀ k o,ops[k]? = Xa o→S k→∀ e∈o.after,Region.binds .any e=Xb→S e.on)∧S j∧¬ S i:=
   fun j hj=>⟨fun k=>listed.getD k Xc=Xb,hcl,hj,by simp [hun]⟩
  -- what is not listed is not before i
  have hnot':∀ j,j≠i→listed.getD j Xc=Xc→∃ S:Nat→Prop,(∀ k o,ops[k]? = Xa o→S k→∀ e∈o.after,Region.binds .any e=Xb→S e.on)∧S i∧¬ S j:=by
   intro j hji hj
   refine ⟨fun k=>k=i∨listed.getD k Xc=Xb,fun k o' hk hS e he hb=>?_,.inl rfl,by simp [hji,hj]⟩
   rcases hS with rfl | hS
   ·rw [h2] at hk
    cases hk
    exact .inr (h3 e he hb)
   ·exact .inr (hcl k o' hk hS e he hb)
  have hpre:∀ d∈s.F,comp (fun i=>listed.getD i Xc) 0 σ ss d=Zgu σ (ss.take i) d:=by
   intro d hd
   rw [← Zds ss 0 σ i]
   refine Wf _ _ ss 0 σ σ rfl fun j s' hj hdj=>?_
   simp only [XM]
   rcases Ty j i with hlt' | rfl | hgt
   ·simp only [hlt',decide_true]
    cases hl:listed.getD j Xc with
    | true => rfl
    | false => exact (((hind i j s s' hsi hj hlt' (hnot' j (by omega) hl)).1 d hdj) hd).elim
   ·simp [hun]
   ·have hf:decide (j < i)=Xc:=by simp;omega
    rw [hf]
    cases hl:listed.getD j Xc with
    | false => rfl
    | true => exact (((hind j i s' s hj hsi hgt (hnot j hl)).2 d hdj) hd).elim
  refine hst.2.2.2.2 c hc hn _ tm w lim X hpre (ZmU _ ss 0 σ (Zgn ss 0 σ hch) hpb) ⟨Znl _ ss 0 σ (Zi5 ss 0 σ hch) hN,fun d j hd=>(Zlc _ ss 0 σ σ (ZeQ ss 0 σ hch) (fun _ _ _=>rfl) d j hd).trans (ZlM (ss.take i) σ σ (fun s' hs'=>ZeQ ss 0 σ hch s' (XP hs')) (fun _ _ _=>rfl) d j hd).symm⟩ hs Q _ fun tm' w' lim' X' hs'=>?_
  refine ih (listed.setIfInBounds i Xb) tm' w' lim' X' (by simpa using hsz) ?_ ?_ ?_
  ·intro k o' hk hl e he hb
   rw [hset] at hl ⊢
   by_cases hei:e.on=i
   ·simp [hei]
   ·rw [if_neg hei]
    by_cases hki:k=i
    ·subst hki
     rw [h2] at hk
     cases hk
     exact h3 e he hb
    ·rw [if_neg hki] at hl
     exact hcl k o' hk hl e he hb
  ·have hlt2:(Un ops.size).countP (fun j=>!(listed.setIfInBounds i Xb).getD j Xc) < (Un ops.size).countP (fun j=>!listed.getD j Xc):=by
    have key:∀ (l:List Nat),i∈l→l.countP (fun j=>!(listed.setIfInBounds i Xb).getD j Xc) < l.countP (fun j=>!listed.getD j Xc):=by
     have hle:∀ (l:List Nat),l.countP (fun j=>!(listed.setIfInBounds i Xb).getD j Xc)≤l.countP (fun j=>!listed.getD j Xc):=by
      intro l
      refine List.countP_mono_left fun j _ hj=>?_
      rw [hset] at hj
      split at hj
      ·simp at hj
      ·exact hj
     intro l
     induction l with
     | nil => intro h; cases h
     | cons x l ihl =>
      intro h
      rw [UZ,UZ]
      by_cases hx:x=i
      ·subst hx
       have h1:(listed.setIfInBounds x Xb).getD x Xc=Xb:=by rw [hset,if_pos rfl]
       have:=hle l
       rw [h1,hun]
       simp only [Bool.not_true,Bool.not_false,U5,if_false,if_true]
       omega
      ·have:=ihl (by rcases Xu.1 h with h | h;exact (hx h.symm).elim;exact h)
       rw [hset x,if_neg hx]
       omega
    exact key _ (by simpa using hlt)
   omega
  ·have he:comp (fun j=>(listed.setIfInBounds i Xb).getD j Xc) 0 σ ss=JC (comp (fun i=>listed.getD i Xc) 0 σ ss) s.ups:=by
    funext d
    rw [JM]
    by_cases hd:d∈s.ups.map (·.1)
    ·have hdF:d∈s.F:=by
      obtain ⟨u,hu,rfl⟩:=Xm.1 hd
      exact hst.1 u hu
     -- nothing behind i that is listed writes d
     rw [Wf (d:=d) _ (fun j=>decide (j < i+1)) ss 0 σ σ rfl fun j s' hj hdj=>?_]
     ·have:=Zds ss 0 σ (i+1)
      rw [XM] at this
      rw [this,List.take_add_one,hsi]
      have happ:∀ (l:List Stp) (τ:Nat→AV),Zgu τ (l++[s])=JC (Zgu τ l) s.ups:=by
       intro l
       induction l with
       | nil => intro τ; rfl
       | cons x l ihl => intro τ; exact ihl _
      show Zgu σ (ss.take i++[s]) d=_
      rw [happ,JM]
      obtain ⟨x,hx⟩:=Wt s.ups d hd
      rw [hx]
      rfl
     ·rw [XM,hset]
      rcases Ty j i with hlt' | rfl | hgt
      ·have:decide (j < i+1)=Xb:=by simp;omega
       rw [this,if_neg (by omega)]
       cases hl:listed.getD j Xc with
       | true => rfl
       | false => exact (((hind i j s s' hsi hj hlt' (hnot' j (by omega) hl)).1 d hdj) hdF).elim
      ·simp
      ·have:decide (j < i+1)=Xc:=by simp;omega
       rw [this,if_neg (by omega)]
       cases hl:listed.getD j Xc with
       | false => rfl
       | true => exact (((hind j i s' s hj hsi hgt (hnot j hl)).2 d hdj) hdF).elim
    ·rw [Kk s.ups d hd]
     refine Wf _ _ ss 0 σ σ rfl fun j s' hj hdj=>?_
     rw [XM,hset]
     by_cases hji:j=i
     ·subst hji
      rw [hsi] at hj
      cases hj
      exact (hd hdj).elim
     ·rw [if_neg hji]
   rw [he]
   exact hs'
end
theorem Zfd {ops:Array Oper} {S:Nat→Prop} (hS:∀ k o,ops[k]? = Xa o→S k→∀ e∈o.after,Region.binds .any e=Xb→S e.on) (i j:Nat) (hi:S i)
  (hb:((Region.before ops).getD i 0).testBit j=Xb):S j:=by
 have inner:∀ (acc:Array Nat),(∀ i j,S i→(acc.getD i 0).testBit j=Xb→S j)→∀ (l:List Edge),(∀ e∈l,Region.binds .any e=Xb→S e.on)→∀ (s:Nat),(∀ j,s.testBit j=Xb→S j)→
   ∀ j,(l.foldl (fun s e=>if Region.binds .any e then s||| 2^e.on||| acc.getD e.on 0 else s) s).testBit j=Xb→S j:=by
  intro acc hacc l
  induction l with
  | nil => intro _ s hs j hj; exact hs j hj
  | cons e l ih =>
   intro hl s hs j hj
   rw [Tb] at hj
   refine ih (fun e' he'=>hl e' (by simp [he'])) _ ?_ j hj
   intro j' hj'
   split at hj'
   ·rename_i hbd
    have hon:=hl e (by simp) hbd
    rw [Nat.testBit_or,Nat.testBit_or,Nat.testBit_two_pow,US,US,decide_eq_true_eq] at hj'
    rcases hj' with (h | h) | h
    ·exact hs j' h
    ·rw [← h];exact hon
    ·exact hacc e.on j' hon h
   ·exact hs j' hj'
 have outer:∀ (l:List Oper) (acc:Array Nat),(∀ j,l[j]? = ops[acc.size+j]?)→(∀ i j,S i→(acc.getD i 0).testBit j=Xb→S j)→
   ∀ i j,S i→((l.foldl (fun acc o=>acc.push (o.after.foldl (fun s e=>if Region.binds .any e then s||| 2^e.on||| acc.getD e.on 0 else s) 0)) acc).getD i 0).testBit j=Xb→S j:=by
  intro l
  induction l with
  | nil => intro acc _ hacc i j hi hj; exact hacc i j hi hj
  | cons o l ih =>
   intro acc hl hacc i j hi hj
   rw [Tb] at hj
   refine ih _ (fun j=>?_) ?_ i j hi hj
   ·have:=hl (j+1)
    simp only [Ul,Array.size_push] at this ⊢
    rw [this]
    congr 1
    omega
   ·intro i' j' hi' hj'
    have h0:ops[acc.size]? = Xa o:=by simpa using (hl 0).symm
    by_cases h:i' < acc.size
    ·refine hacc i' j' hi' ?_
     simp only [Uc,Array.size_push,h,dite_true] at hj' ⊢
     rw [dif_pos (by omega)] at hj'
     simp only [Array.getInternal_eq_getElem,Array.getElem_push,h,dite_true] at hj' ⊢
     exact hj'
    ·by_cases h':i'=acc.size
     ·subst h'
      have:(acc.push (o.after.foldl (fun s e=>if Region.binds .any e then s||| 2^e.on||| acc.getD e.on 0 else s) 0)).getD acc.size 0=o.after.foldl (fun s e=>if Region.binds .any e then s||| 2^e.on||| acc.getD e.on 0 else s) 0:=by
       simp [Uc]
      rw [this,← Array.foldl_toList] at hj'
      exact inner acc hacc o.after.toList (fun e he hb=>hS acc.size o h0 hi' e (by simpa using he) hb) 0 (by simp) j' hj'
     ·have:(acc.push (o.after.foldl (fun s e=>if Region.binds .any e then s||| 2^e.on||| acc.getD e.on 0 else s) 0)).getD i' 0=0:=by
       simp only [Uc,Array.size_push]
       rw [dif_neg (by omega)]
      rw [this] at hj'
      simp at hj'
 have:=outer ops.toList #[] (fun j=>by simp) (fun i j _ h=>by simp at h) i j hi
 apply this
 rw [Array.foldl_toList]
 exact hb
theorem Tr.get_set:∀ (k:Nat) (t:Tr) (d i:Nat) (x:SV),d < 2^k→i < 2^k→(Tr.set k t d x).get i=if i=d then x else t.get i
 | 0, t, d, i, x, hd, hi => by
  have h1:d=0:=by simpa using hd
  have h2:i=0:=by simpa using hi
  subst h1
  subst h2
  rfl
 | k + 1, .node l r, d, i, x, hd, hi => by
  have hd2:d / 2 < 2^k:=by rw [Nat.pow_succ] at hd;omega
  have hi2:i / 2 < 2^k:=by rw [Nat.pow_succ] at hi;omega
  have ihl:=Tr.get_set k l (d / 2) (i / 2) x hd2 hi2
  have ihr:=Tr.get_set k r (d / 2) (i / 2) x hd2 hi2
  rcases TV d with h | h<;>rcases TV i with h' | h'
  ·simp only [Tr.set,h,Tr.get,h',ihl]
   by_cases he:i=d
   ·simp [he]
   ·rw [if_neg he,if_neg (by omega)]
  ·simp only [Tr.set,h,Tr.get,h']
   rw [if_neg (by omega)]
  ·simp only [Tr.set,h,Tr.get,h']
   rw [if_neg (by omega)]
  ·simp only [Tr.set,h,Tr.get,h',ihr]
   by_cases he:i=d
   ·simp [he]
   ·rw [if_neg he,if_neg (by omega)]
 | k + 1, .leaf y, d, i, x, hd, hi => by
  have hd2:d / 2 < 2^k:=by rw [Nat.pow_succ] at hd;omega
  have hi2:i / 2 < 2^k:=by rw [Nat.pow_succ] at hi;omega
  have ih:=Tr.get_set k (.leaf y) (d / 2) (i / 2) x hd2 hi2
  rcases TV d with h | h<;>rcases TV i with h' | h'
  ·simp only [Tr.set,h,Tr.get,h',ih]
   by_cases he:i=d
   ·simp [he]
   ·rw [if_neg he,if_neg (by omega)]
  ·simp only [Tr.set,h,Tr.get,h']
   rw [if_neg (by omega)]
  ·simp only [Tr.set,h,Tr.get,h']
   rw [if_neg (by omega)]
  ·simp only [Tr.set,h,Tr.get,h',ih]
   by_cases he:i=d
   ·simp [he]
   ·rw [if_neg he,if_neg (by omega)]
def ZO (E:Env) (s:Tr) (ρ:Nat→V):Nat→AV:=fun d=>(gE E s d).den ρ
def YK (E:Env) (s:Tr) (n:Nat):Prop:=∀ d,(gE E s d).bd n
section
variable {P:Program} {E:Env} {R:AV→List AV→Prop} {A:Nat→List V→Prop}
theorem JN {d:Nat} (h:d < E.nt):d < E.top:=XO h (XX _ _)
theorem Zqc (hnt:E.top≤1024) {d:Nat} (hd:d < E.top) (s:Tr) (x:SV) (i:Nat):gE E (s.set depth d x) i=if i=d then x else gE E s i:=by
 unfold gE
 by_cases hi:i < E.top
 ·rw [if_pos hi,if_pos hi]
  exact Tr.get_set 10 s d i x (by omega) (by omega)
 ·rw [if_neg hi,if_neg hi,if_neg (by omega)]
theorem YF (hnt:E.top≤1024) {d:Nat} (hd:d < E.top) (s:Tr) (x:SV) (ρ:Nat→V):ZO E (s.set depth d x) ρ=upd (ZO E s ρ) d (x.den ρ):=by
 funext i
 simp only [ZO,Zqc hnt hd,upd]
 split<;>rfl
theorem Yb (hnt:E.top≤1024) {d n:Nat} (hd:d < E.top) {s:Tr} {x:SV} (hs:YK E s n) (hx:x.bd n):YK E (s.set depth d x) n:=by
 intro i
 rw [Zqc hnt hd]
 split
 ·exact hx
 ·exact hs i
def YE (E:Env) (us:Ups):Prop:=us.all (fun u=>decide (u.1 < E.top))=Xb
theorem Jn (hnt:E.top≤1024) (ρ:Nat→V):∀ (us:Ups) (s:Tr),YE E us→ZO E (Z8 us s) ρ=JC (ZO E s ρ) (us.map fun u=>(u.1,u.2.den ρ))
 | [], _, _ => rfl
 | (d, x) :: us, s, h => by
  simp only [YE,UN,Xx,decide_eq_true_eq] at h
  simp only [Z8,Xk,JC]
  rw [Jn hnt ρ us _ h.2,YF hnt h.1]
theorem Jb (hnt:E.top≤1024) {n:Nat} : ∀ (us:Ups) (s:Tr),YE E us→YK E s n→(∀ u∈us,u.2.bd n)→YK E (Z8 us s) n
 | [], _, _, hs, _ => hs
 | (d, x) :: us, s, h, hs, hu => by
  simp only [YE,UN,Xx,decide_eq_true_eq] at h
  exact Jb hnt us _ h.2 (Yb hnt h.1 hs (hu (d,x) (by simp))) fun u h'=>hu u (by simp [h'])
theorem Zde {s:Tr} {n n':Nat} (h:YK E s n) (hn:n≤n'):YK E s n':=fun d=>SV.bd_mono hn _ (h d)
theorem ZaU {s:Tr} {n:Nat} {ρ ρ':Nat→V} (h:YK E s n) (hρ:∀ m,m < n→ρ' m=ρ m):ZO E s ρ'=ZO E s ρ:=by
 funext d
 exact SV.den_congr hρ _ (h d)
theorem ZeC {x:SV} (ρ:Nat→V) (h:∀ cs,x≠.box cs):∀ cs,x.den ρ≠.box cs:=by
 intro cs he
 cases x with
 | box ds => exact h ds rfl
 | c y => cases y <;> cases he
 | _ => cases he
theorem Zfh {x:SV} (ρ:Nat→V) (h:∀ cs,x≠.gbox cs):(x.den ρ).isG=Xc:=by
 cases x with
 | gbox cs => exact (h cs rfl).elim
 | c y => cases y <;> rfl
 | _ => rfl
theorem Zkp {a b:AV} (ga:a.isG=Xc) (gb:b.isG=Xc) (ha:KY a) (hb:(∀ cs,b≠.box cs)∨a = .dead):WS a b=Xb:=by
 unfold WS
 split
 ·cases ga
 ·cases gb
 ·rename_i cs _;exact (ha.1 cs rfl).elim
 ·exact (ha.2.1 _ _ rfl).elim
 ·rfl
 ·rename_i h1 h2
  rcases hb with hb | hb
  ·exact (hb _ rfl).elim
  ·exact (h2 hb).elim
 ·rfl
theorem ZlK {x:SV} (ρ:Nat→V) (h:∀ cs,x≠.box cs) (h':∀ e l,x≠.own Xb e l) (h3:∀ cs,x≠.gbox cs):KY (x.den ρ):=by
 refine ⟨ZeC ρ h,fun e xs he=>?_,fun cs he=>by have:=Zfh ρ h3;rw [he] at this;cases this⟩
 cases x with
 | own b e' l =>
  cases b with
  | true => exact h' _ _ rfl
  | false => cases he
 | c y => cases y <;> cases he
 | _ => cases he
theorem YB {a b:SV} (ρ:Nat→V) (h:W9 a b=Xb):WS (a.den ρ) (b.den ρ)=Xb:=by
 have h1:∀ cs,a≠.box cs:=by
  rintro cs rfl
  cases b<;>cases h
 have h2:∀ e l,a≠.own Xb e l:=by
  rintro e l rfl
  cases b<;>cases h
 have h3:∀ cs,a≠.gbox cs:=by
  rintro cs rfl
  cases b<;>cases h
 have h4:∀ cs,b≠.gbox cs:=by
  rintro cs rfl
  cases a with
  | own x e l => cases x <;> cases h
  | _ => cases h
 refine Zkp (Zfh ρ h3) (Zfh ρ h4) (ZlK ρ h1 h2 h3) ?_
 by_cases hd:a = .dead
 ·subst hd;exact .inr rfl
 ·refine .inl (ZeC ρ ?_)
  rintro cs rfl
  cases a with
  | dead => exact hd rfl
  | own x e l => cases x <;> cases h
  | _ => cases h
theorem ZkN {c:Ctx} {σ:Nat→AV} {tm:Array Value} {w:World} {lim:Nat→Nat} {X:Nat→Nat→Option Nat} (h:Sim c σ tm w lim X) {ops:Array Oper} {j gd:Nat} {b:Bool}
  (hd:(ops[j]?).bind (·.dst)=Xa gd) (hb:σ gd = .val (.bool b)):yielded ops tm j=Xa b:=by
 have hlt:gd < tm.size:=by
  rcases XD gd c.nt with h1 | h1
  ·rw [h.size];exact h1
  ·have:=h.out gd h1;rw [hb] at this;rcases this with h2 | h2<;>cases h2
 have hr:=h.rel gd
 rw [hb] at hr
 have hv:tm.getD gd undef = .bool b:=YV hr
 have h2:tm[gd]? = Xa (.bool b):=by
  simp only [Uc,hlt,dite_true] at hv
  rw [X8 hlt]
  exact congrArg Xa hv
 unfold yielded
 simp only [hd,Tm,h2]
theorem ZfQ {c:Ctx} {σ:Nat→AV} {tm:Array Value} {w:World} {lim:Nat→Nat} {X:Nat→Nat→Option Nat} (h:Sim c σ tm w lim X) {ops:Array Oper} {j gd:Nat}
  (hd:(ops[j]?).bind (·.dst)=Xa gd) (hb:σ gd = .tuple []):yielded ops tm j=Xe:=by
 have hr:=h.rel gd
 rw [hb] at hr
 obtain ⟨us,h1,h2,_⟩:=hr
 have:us = []:=Ub h2
 subst this
 unfold yielded
 simp only [hd,Tm]
 by_cases hlt:gd < tm.size
 ·simp only [Uc,hlt,dite_true] at h1
  have h3:tm[gd]? = Xa (.tuple #[]):=by
   rw [X8 hlt]
   exact congrArg Xa h1
  simp only [h3]
 ·simp only [Array.getElem?_eq_none (Nat.le_of_not_lt hlt)]
theorem Sim.putUndef {c:Ctx} {σ:Nat→AV} {tm:Array Value} {w:World} {lim:Nat→Nat} {X:Nat→Nat→Option Nat} (h:Sim c σ tm w lim X) {d:Nat} (hd:d < c.nt) (hb:KY (σ d)) :
  ∃ X',Sim c (upd σ d (.tuple [])) (tm.setIfInBounds d undef) w lim X':=
 ⟨_,h.putRow Jx (ZU.refl w lim (fun _=>False)) (fun _ hs=>hs.elim) hd (by simp) (fun i hi=>ZL tm d i undef hi) (.inl hb.1) (fun i q hi hr=>(h.noRefs hb.none i q hi hr).elim)
  ⟨[],by rw [JF tm d undef (by rw [h.size];exact hd)];rfl,rfl,by simp⟩ (fun k b hk=>by simp [Jx] at hk) (fun k k' b hk=>by simp [Jx] at hk)⟩
def Zh6 (ops:Array Oper) (o:Oper) (σ:Nat→AV) (gs:List Nat) (v:Bool):Prop:=
 (o.guard=Xe∧v=Xb)∨(∃ j want gd b,o.guard=Xa (j,want)∧(ops[j]?).bind (·.dst)=Xa gd∧gd∈gs∧σ gd = .val (.bool b)∧(v=Xb↔want=b))∨
 ∃ j want gd,o.guard=Xa (j,want)∧(ops[j]?).bind (·.dst)=Xa gd∧gd∈gs∧σ gd = .tuple []∧v=Xc
theorem Zab {ops:Array Oper} {o:Oper} {σ:Nat→AV} {gs:List Nat} {v:Bool} (hg:Zh6 ops o σ gs v) {c:Ctx} {σ':Nat→AV} {tm:Array Value} {w:World} {lim:Nat→Nat} {X:Nat→Nat→Option Nat}
  (h:Sim c σ' tm w lim X) (hag:∀ d∈gs,σ' d=σ d):Region.wanted o (yielded ops tm)=v:=by
 rcases hg with ⟨h1,h2⟩ | ⟨j,want,gd,b,h1,h2,h3,h4,h5⟩ | ⟨j,want,gd,h1,h2,h3,h4,h5⟩
 ·unfold Region.wanted;rw [h1,h2]
 ·have hy:=ZkN h h2 ((hag gd h3).trans h4)
  unfold Region.wanted
  rw [h1]
  simp only [hy]
  cases v<;>cases want<;>cases b<;>simp_all
 ·have hy:=ZfQ h h2 ((hag gd h3).trans h4)
  unfold Region.wanted
  rw [h1,h5]
  simp only [hy]
  rfl
theorem Wh {x:SV} (ρ:Nat→V) (h:ZnH x=Xb):Zd7 (x.den ρ):=by
 unfold ZnH at h
 split at h
 ·rename_i cs;exact ⟨_,rfl⟩
 ·cases h
theorem ZcH {T:Odr} {i:Nat} {x:SV} (ρ:Nat→V) (h:ZcR T i x=Xb):∀ d k,T.nr d i=Xb→¬ Jl (x.den ρ) d k:=by
 intro d k hd hr
 cases x with
 | mref d' k' =>
  rcases hr with hr | ⟨_,hr⟩ <;> cases hr
  simp [ZcR,hd] at h
 | eref d' k' i s o =>
  rcases hr with hr | ⟨_,hr⟩ <;> cases hr
  simp [ZcR,hd] at h
 | c y => rcases hr with hr | ⟨_, hr⟩ <;> cases y <;> cases hr
 | _ => rcases hr with hr | ⟨_, hr⟩ <;> cases hr
def Wp (T:Odr) (P:Program) (E:Env) (R:AV→List AV→Prop) (A:Nat→List V→Prop) (B:Nat→Bool) (ops:Array Oper) (i:Nat) (s:Tr) (ρ:Nat→V) (cont:Tr→Nat→Log→STree):Prop:=
 ∃ (st:Stp) (ρ':Nat→V) (n':Nat) (s':Tr),YK E s' n'∧(cont s' n' ⟨i,st.F,st.ups.map (·.1)⟩).wp P R A ρ'∧ZrB T P E.nt ops (fun d=>B d=Xb) i (ZO E s ρ) st∧ZO E s' ρ'=JC (ZO E s ρ) st.ups
variable {ops:Array Oper} {o:Oper} {i:Nat} {s:Tr} {n:Nat} {ρ:Nat→V} {cont:Tr→Nat→Log→STree} {gs:List Nat} {tx:Odr} {tk:Bool} {B:Nat→Bool}
theorem Zhd {P:Program} {R:AV→List AV→Prop} {A:Nat→List V→Prop} {ρ:Nat→V} : ∀ (q:List (IE×IE)) (t:STree),(ZlW q t).wp P R A ρ→(∀ p∈q,p.1.den ρ=p.2.den ρ)∧t.wp P R A ρ
 | [], t, h => ⟨by simp, h⟩
 | (a, b) :: q, t, h => by
  obtain ⟨h1,h2,h3⟩:=h
  obtain ⟨h4,h5⟩:=Zhd q t h3
  refine ⟨fun p hp=>?_,h5⟩
  rcases Xu.1 hp with rfl | hp
  ·exact Int.le_antisymm h1 h2
  ·exact h4 p hp
theorem Zb3 (ρ:Nat→V) {kp:Nat→Bool} : ∀ {cs' cs:List BC} {j:Nat} {r:List BC} {q:List (IE×IE)},ZbG kp j cs' cs=Xa (r,q)→(∀ p∈q,p.1.den ρ=p.2.den ρ)→
  r.map (BC.den ρ)=cs'.map (BC.den ρ)∧∀ i,kp (j+i)=Xb→((r.map (BC.den ρ))[i]?).map Yh=((cs.map (BC.den ρ))[i]?).map Yh
 | [], [], j, r, q, h, _ => by
  simp only [ZbG,Xf,Xo] at h
  obtain ⟨rfl,rfl⟩:=h
  exact ⟨rfl,fun _ _=>rfl⟩
 | [], _ :: _, _, _, _, h, _ => by simp [ZbG] at h
 | _ :: _, [], _, _, _, h, _ => by simp [ZbG] at h
 | c' :: cs', c :: cs, j, r, q, h, hq => by
  simp only [ZbG] at h
  split at h
  ·rename_i r1 q1 h1
   split at h
   ·rename_i hk
    split at h
    ·rename_i k' e' k e
     split at h
     ·rename_i hkk
      subst hkk
      simp only [Xf,Xo] at h
      obtain ⟨rfl,rfl⟩:=h
      obtain ⟨g1,g2⟩:=Zb3 ρ h1 fun p hp=>hq p (by simp [hp])
      have he:e'.den ρ=e.den ρ:=hq (e',e) (by simp)
      refine ⟨?_,fun i hi=>?_⟩
      ·simp only [Xk,g1,BC.den,SC.den,he]
      ·cases i with
       | zero => rfl
       | succ i => simpa using g2 i (by rw [show j + 1 + i = j + (i + 1) by omega]; exact hi)
     ·cases h
    ·rename_i t' l' t l
     split at h
     ·rename_i hkk
      subst hkk
      simp only [Xf,Xo] at h
      obtain ⟨rfl,rfl⟩:=h
      obtain ⟨g1,g2⟩:=Zb3 ρ h1 hq
      refine ⟨by simp only [Xk,g1],fun i hi=>?_⟩
      cases i with
      | zero => rfl
      | succ i => simpa using g2 i (by rw [show j + 1 + i = j + (i + 1) by omega]; exact hi)
     ·cases h
    ·cases h
   ·rename_i hk
    simp only [Xf,Xo] at h
    obtain ⟨rfl,rfl⟩:=h
    obtain ⟨g1,g2⟩:=Zb3 ρ h1 hq
    refine ⟨by simp only [Xk,g1],fun i hi=>?_⟩
    cases i with
    | zero => rw [Ug, hk] at hi; cases hi
    | succ i => simpa using g2 i (by rw [show j + 1 + i = j + (i + 1) by omega]; exact hi)
  ·cases h
theorem ZgW {kp:Nat→Bool} : ∀ {cs' cs:List BC} {j:Nat} {r:List BC} {q:List (IE×IE)},ZbG kp j cs' cs=Xa (r,q)→∀ b∈r,b∈cs'∨b∈cs
 | [], [], j, r, q, h => by
  simp only [ZbG,Xf,Xo] at h
  obtain ⟨rfl,rfl⟩:=h
  simp
 | [], _ :: _, _, _, _, h => by simp [ZbG] at h
 | _ :: _, [], _, _, _, h => by simp [ZbG] at h
 | c' :: cs', c :: cs, j, r, q, h => by
  simp only [ZbG] at h
  split at h
  ·rename_i r1 q1 h1
   have ih:=ZgW h1
   have key:∀ b∈r1,b∈c'::cs'∨b∈c::cs:=fun b hb=>by
    rcases ih b hb with h2 | h2
    ·exact .inl (by simp [h2])
    ·exact .inr (by simp [h2])
   split at h
   ·split at h
    ·split at h
     ·simp only [Xf,Xo] at h
      obtain ⟨rfl,rfl⟩:=h
      intro b hb
      rcases Xu.1 hb with rfl | hb
      ·exact .inr (by simp)
      ·exact key b hb
     ·cases h
    ·split at h
     ·simp only [Xf,Xo] at h
      obtain ⟨rfl,rfl⟩:=h
      intro b hb
      rcases Xu.1 hb with rfl | hb
      ·exact .inl (by simp)
      ·exact key b hb
     ·cases h
    ·cases h
   ·simp only [Xf,Xo] at h
    obtain ⟨rfl,rfl⟩:=h
    intro b hb
    rcases Xu.1 hb with rfl | hb
    ·exact .inl (by simp)
    ·exact key b hb
  ·cases h
theorem ZtM {T:Odr} {d j:Nat} (h:T.kp d j=Xb):T.kpAt d=Xb:=by
 cases T with
 | text => cases h
 | any N M K =>
  simp only [Odr.kp,Odr.kpAt,TT,UJ] at h ⊢
  exact ⟨_,h,by simp⟩
theorem ZlO (ρ:Nat→V) {T:Odr} {g:Nat→SV} {u u':Nat×SV} {q:List (IE×IE)} (h:Zmq T g u=Xa (u',q)) (hq:∀ p∈q,p.1.den ρ=p.2.den ρ) :
  (u'.1,u'.2.den ρ)=(u.1,u.2.den ρ)∧(∀ j,T.kp u'.1 j=Xb→Jw (u'.2.den ρ) j=Jw ((g u'.1).den ρ) j)∧∀ n,u.2.bd n→(∀ i,(g i).bd n)→u'.2.bd n:=by
 unfold Zmq at h
 split at h
 ·split at h
  ·rename_i cs' cs hu hgu
   split at h
   ·rename_i r q1 h1
    simp only [Xf,Xo] at h
    obtain ⟨rfl,rfl⟩:=h
    obtain ⟨g1,g2⟩:=Zb3 ρ h1 hq
    refine ⟨?_,fun j hj=>?_,fun n hb hg=>?_⟩
    ·rw [hu];simp only [SV.den,g1]
    ·rw [hgu]
     exact g2 j (by rw [XM];exact hj)
    ·rw [hu] at hb
     have hb2:=hg u.1
     rw [hgu] at hb2
     intro b hbr
     rcases ZgW h1 b hbr with h2 | h2
     ·exact hb b h2
     ·exact hb2 b h2
   ·cases h
  ·cases h
 ·rename_i hk
  simp only [Xf,Xo] at h
  obtain ⟨rfl,rfl⟩:=h
  exact ⟨rfl,fun j hj=>(by rw [ZtM hj] at hk;cases hk),fun n hb _=>hb⟩
theorem ZeB (ρ:Nat→V) {T:Odr} {g:Nat→SV} : ∀ {us us':Ups} {q:List (IE×IE)},ZaP T g us=Xa (us',q)→(∀ p∈q,p.1.den ρ=p.2.den ρ)→
  (us'.map fun u=>(u.1,u.2.den ρ))=(us.map fun u=>(u.1,u.2.den ρ))∧(∀ u∈us',∀ j,T.kp u.1 j=Xb→Jw (u.2.den ρ) j=Jw ((g u.1).den ρ) j)∧∀ n,(∀ u∈us,u.2.bd n)→(∀ i,(g i).bd n)→∀ u∈us',u.2.bd n
 | [], us', q, h, _ => by
  simp only [ZaP,Xf,Xo] at h
  obtain ⟨rfl,rfl⟩:=h
  exact ⟨rfl,by simp,by simp⟩
 | u :: us, us', q, h, hq => by
  simp only [ZaP] at h
  split at h
  ·rename_i u1 q1 us1 q2 h1 h2
   simp only [Xf,Xo] at h
   obtain ⟨rfl,rfl⟩:=h
   obtain ⟨a1,a2,a3⟩:=ZlO ρ h1 fun p hp=>hq p (by simp [hp])
   obtain ⟨b1,b2,b3⟩:=ZeB ρ h2 fun p hp=>hq p (by simp [hp])
   refine ⟨by simp only [Xk,a1,b1],fun v hv=>?_,fun n hb hg v hv=>?_⟩
   ·rcases Xu.1 hv with rfl | hv
    ·exact a2
    ·exact b2 v hv
   ·rcases Xu.1 hv with rfl | hv
    ·exact a3 n (hb u (by simp)) hg
    ·exact b3 n (fun w hw=>hb w (by simp [hw])) hg v hv
  ·cases h
theorem WH (hps:EnvSound P E) (hnt:E.top≤1024) (hKB:∀ d j,tx.kp d j=Xb→B d=Xb) (hB:∀ d,B d=Xb→Zd7 (ZO E s ρ d)) (hi:ops[i]? = Xa o) (hs:YK E s n) (hg:Zh6 ops o (ZO E s ρ) gs Xb) (h:(ZkB P E tx tk B o i s gs n cont).wp P R A ρ) :
  Wp tx P E R A B ops i s ρ cont:=by
 obtain ⟨ρ',n',x,us0,fp,h1,h2,h3,h40,h50,h60⟩:=Zkt hps hs (fun i hi=>by unfold gE;rw [if_neg (by omega)]) h
 have hσ:(fun d=>(gE E s d).den ρ)=ZO E s ρ:=rfl
 rw [hσ] at h60
 have hs':YK E s n':=Zde hs h1
 have hc:=ZaU hs h2
 dsimp only at h50
 cases hst:ZaP tx (gE E s) us0 with
 | none => rw [hst] at h50; exact h50.elim
 | some rq =>
 obtain ⟨us,qs⟩:=rq
 rw [hst] at h50
 obtain ⟨hq,h5⟩:=Zhd qs _ h50
 obtain ⟨hus,hkp0,hbd⟩:=ZeB ρ' hst hq
 have h4:=hbd n' h40 hs'
 have h6:=h60
 rw [← hus] at h6
 have hkp:∀ u∈(us.map fun u=>(u.1,u.2.den ρ')),∀ j,tx.kp u.1 j=Xb→Jw u.2 j=Jw (ZO E s ρ u.1) j:=by
  intro u hu j hj
  obtain ⟨v,hv,rfl⟩:=Xm.1 hu
  rw [← hc]
  exact hkp0 v hv j hj
 clear h60 h50 h40 hus hkp0
 split at h5
 case isFalse=>exact h5.elim
 rename_i hall0
 obtain ⟨hall,hnx⟩:=hall0
 rw [XC] at hall
 have hlow:YE E us:=by
  unfold YE
  rw [XC]
  intro u hu
  have:=hall u hu
  rw [Xx,Xx] at this
  exact this.1.1
 have hups:∀ u∈(us.map fun u=>(u.1,u.2.den ρ')),B u.1=Xb→Zd7 u.2:=by
  intro u hu hb
  obtain ⟨v,hv,rfl⟩:=Xm.1 hu
  have:=hall v hv
  simp only [Xx,US,UK] at this
  rcases this.1.2 with h0 | h0
  ·have hb':B v.1=Xb:=hb
   rw [hb'] at h0;cases h0
  ·exact Wh ρ' h0
 have hnr:∀ u∈(us.map fun u=>(u.1,u.2.den ρ')),∀ d k,tx.nr d u.1=Xb→¬ Jl u.2 d k:=by
  intro u hu
  obtain ⟨v,hv,rfl⟩:=Xm.1 hu
  have:=hall v hv
  rw [Xx] at this
  exact ZcH ρ' this.2
 have hids:∀ (σ':Nat→AV),(∀ d∈(VC o).filter (fun t=>!B t),σ' d=ZO E s ρ d)→(∀ d,B d=Xb→Zd7 (σ' d))→∀ d∈VC o,Zd8 (ZO E s ρ d) (σ' d):=by
  intro σ' h0 h1 d hd
  cases hb:B d with
  | true => exact .inr ⟨hB d hb, h1 d hb⟩
  | false => exact .inl (h0 d (U4.2 ⟨hd, by simp [hb]⟩))
 have hfst:(us.map fun u=>(u.1,u.2.den ρ')).map (·.1)=us.map (·.1):=by rw [Uf];rfl
 have hden:ZO E (Z8 us s) ρ'=JC (ZO E s ρ) (us.map fun u=>(u.1,u.2.den ρ')):=by rw [Jn hnt ρ' us s hlow,hc]
 split at h5
 ·rename_i d hd
  split at h5
  ·rename_i hh
   refine ⟨⟨(VC o).filter (fun t=>!B t)++gs++fp++us.map (·.1)++[d],(us.map fun u=>(u.1,u.2.den ρ'))++[(d,x.den ρ')]⟩,ρ',n',(Z8 us s).set depth d x,Yb hnt (JN hh.1) (Jb hnt us s hlow hs' h4) h3,?_,⟨?_,?_,?_,?_,?_⟩,?_⟩
   ·rw [XJ,hfst]
    exact h5
   ·intro u hu
    rcases Xs.1 hu with hu | hu
    ·refine Xs.2 (.inl (Xs.2 (.inr ?_)))
     rw [← hfst]
     exact Xm.2 ⟨u,hu,rfl⟩
    ·rw [XH] at hu
     subst hu
     simp
   ·intro u hu hb
    rcases Xs.1 hu with hu | hu
    ·exact hups u hu hb
    ·rw [XH] at hu
     subst hu
     have hb':B d=Xb:=hb
     rw [hh.2.2] at hb'
     cases hb'
   ·intro u hu
    rcases Xs.1 hu with hu | hu
    ·exact hnr u hu
    ·rw [XH] at hu
     subst hu
     unfold ZiF at hnx
     rw [hd] at hnx
     exact ZcH ρ' hnx
   ·intro u hu j hj
    rcases Xs.1 hu with hu | hu
    ·exact hkp u hu j hj
    ·rw [XH] at hu
     subst hu
     have hb':=hKB _ j hj
     rw [hh.2.2] at hb'
     cases hb'
   ·intro c hcP hcn σ' tm w lim X hag hpb hT hsim Q K hK
    unfold wpOp
    simp only [hi]
    rw [Zab hg hsim fun d' hd'=>hag d' (by simp [hd'])]
    rw [if_pos rfl]
    refine .inl (h6 c hcP σ' tm w lim X (hids σ' (fun d' hd'=>hag d' (by simp only [Xs];exact .inl (.inl (.inl (.inl hd'))))) hpb) (fun d' hd'=>hag d' (by
     rw [hfst] at hd'
     simp only [Xs] at hd' ⊢
     rcases hd' with hd' | hd'
     ·exact .inl (.inl (.inr hd'))
     ·exact .inl (.inr hd'))) hT hsim K Q fun v w' ha=>?_)
    rw [hd] at ha ⊢
    obtain ⟨lim',X',hsim'⟩:=ha (by rw [hcn];exact hh.1) (by
     have:JC σ' (us.map fun u=>(u.1,u.2.den ρ')) d=(gE E (Z8 us s) d).den ρ':=by
      have h7:=congrFun hden d
      rw [JM] at h7 ⊢
      rw [hag d (by simp)]
      exact h7.symm
     rw [this]
     exact YB ρ' hh.2.1)
    refine hK _ w' lim' X' ?_
    rw [Vn]
    exact hsim'
   ·rw [YF hnt (JN hh.1),hden,Vn]
    rfl
  ·exact h5.elim
 ·rename_i hd
  refine ⟨⟨(VC o).filter (fun t=>!B t)++gs++fp++us.map (·.1),us.map fun u=>(u.1,u.2.den ρ')⟩,ρ',n',Z8 us s,Jb hnt us s hlow hs' h4,?_,⟨?_,hups,hnr,hkp,?_⟩,hden⟩
  ·rw [hfst]
   exact h5
  ·intro u hu
   refine Xs.2 (.inr ?_)
   rw [← hfst]
   exact Xm.2 ⟨u,hu,rfl⟩
  ·intro c hcP hcn σ' tm w lim X hag hpb hT hsim Q K hK
   unfold wpOp
   simp only [hi]
   rw [Zab hg hsim fun d' hd'=>hag d' (by simp [hd'])]
   rw [if_pos rfl]
   refine .inl (h6 c hcP σ' tm w lim X (hids σ' (fun d' hd'=>hag d' (by simp only [Xs];exact .inl (.inl (.inl hd')))) hpb) (fun d' hd'=>hag d' (by
    rw [hfst] at hd'
    simp only [Xs] at hd' ⊢
    rcases hd' with hd' | hd'
    ·exact .inl (.inr hd')
    ·exact .inr hd')) hT hsim K Q fun v w' ha=>?_)
   rw [hd] at ha ⊢
   obtain ⟨lim',X',hsim'⟩:=ha
   exact hK _ w' lim' X' hsim'
theorem VT (hnt:E.top≤1024) (hKB:∀ d j,tx.kp d j=Xb→B d=Xb) (hi:ops[i]? = Xa o) (hs:YK E s n) (hg:Zh6 ops o (ZO E s ρ) gs Xc) (h:(Zdp E B o i s gs n cont).wp P R A ρ) :
  Wp tx P E R A B ops i s ρ cont:=by
 unfold Zdp at h
 split at h
 ·rename_i d hd
  split at h
  ·rename_i hh
   refine ⟨⟨gs++[d],[(d,.tuple [])]⟩,ρ,n,s.set depth d (.tuple []),Yb hnt (JN hh.1) hs (by simp [SV.bd]),h,⟨by simp,fun u hu hb=>?_,fun u hu d k _ hr=>?_,fun u hu j hj=>?_,?_⟩,YF hnt (JN hh.1) _ _ _⟩
   ·rw [XH] at hu
    subst hu
    have hb':B d=Xb:=hb
    rw [hh.2.2] at hb'
    cases hb'
   ·rw [XH] at hu
    subst hu
    rcases hr with hr | ⟨_,hr⟩ <;> cases hr
   ·rw [XH] at hu
    subst hu
    have hb':=hKB _ j hj
    rw [hh.2.2] at hb'
    cases hb'
   intro c hcP hcn σ' tm w lim X hag hpb hT hsim Q K hK
   unfold wpOp
   simp only [hi]
   rw [Zab hg hsim fun d' hd'=>hag d' (by simp [hd'])]
   rw [if_neg (by simp),hd]
   obtain ⟨X',hs'⟩:=hsim.putUndef (d:=d) (by rw [hcn];exact hh.1) (by
    rw [hag d (by simp)]
    exact ZH (YB ρ hh.2.1))
   exact hK _ w lim X' hs'
  ·exact h.elim
 ·rename_i hd
  refine ⟨⟨gs,[]⟩,ρ,n,s,hs,h,⟨by simp,by simp,by simp,by simp,?_⟩,rfl⟩
  intro c hcP hcn σ' tm w lim X hag hpb hT hsim Q K hK
  unfold wpOp
  simp only [hi]
  rw [Zab hg hsim hag]
  rw [if_neg (by simp),hd]
  exact hK _ w lim X hsim
theorem WT (hnt:E.top≤1024) {t:Nat} {b:BE} {v:Bool} (hb:gE E s t = .c (.bool b)) (hv:b.den ρ=v):t < E.top∧ZO E (s.set depth t (.c (.bool (.lit v)))) ρ=ZO E s ρ:=by
 have hlt:t < E.top:=by
  unfold gE at hb
  split at hb
  ·assumption
  ·cases hb
 refine ⟨hlt,?_⟩
 rw [YF hnt hlt]
 funext d
 by_cases hd:d=t
 ·subst hd
  rw [ZC]
  simp only [ZO,hb,SV.den,SC.den,hv,BE.den]
 ·rw [Zf _ _ hd]
theorem ZfW (hps:EnvSound P E) (hnt:E.top≤1024) (hKB:∀ d j,tx.kp d j=Xb→B d=Xb) (hB:∀ d,B d=Xb→Zd7 (ZO E s ρ d)) (hi:ops[i]? = Xa o) (hs:YK E s n) (h:(Zmt P E tx tk B ops o i s n cont).wp P R A ρ):Wp tx P E R A B ops i s ρ cont:=by
 unfold Zmt at h
 split at h
 ·rename_i hg
  exact WH hps hnt hKB hB hi hs (.inl ⟨hg,rfl⟩) h
 ·rename_i j want hg
  split at h
  ·exact h.elim
  ·rename_i gd hgd
   split at h
   ·rename_i hb
    have hv:ZO E s ρ gd = .tuple []:=by simp only [ZO,hb];rfl
    exact VT hnt hKB hi hs (.inr (.inr ⟨j,want,gd,hg,hgd,by simp,hv,rfl⟩)) h
   ·rename_i b hb
    have hv:ZO E s ρ gd = .val (.bool b):=by simp only [ZO,hb];rfl
    split at h
    ·rename_i hw
     exact WH hps hnt hKB hB hi hs (.inr (.inl ⟨j,want,gd,b,hg,hgd,by simp,hv,by simp [hw]⟩)) h
    ·rename_i hw
     exact VT hnt hKB hi hs (.inr (.inl ⟨j,want,gd,b,hg,hgd,by simp,hv,by simp [hw]⟩)) h
   ·rename_i b _ hb
    obtain ⟨ht,hf⟩:=h
    have hcase:∀ v,b.den ρ=v→(if want=v then ZkB P E tx tk B o i (s.set depth gd (.c (.bool (.lit v)))) [gd] n cont else Zdp E B o i (s.set depth gd (.c (.bool (.lit v)))) [gd] n cont).wp P R A ρ→Wp tx P E R A B ops i s ρ cont:=by
     intro v hv hw
     obtain ⟨hlt,hsame⟩:=WT hnt hb hv
     have hbd:YK E (s.set depth gd (.c (.bool (.lit v)))) n:=Yb hnt hlt hs trivial
     have hval:ZO E (s.set depth gd (.c (.bool (.lit v)))) ρ gd = .val (.bool v):=by rw [hsame];simp only [ZO,hb,SV.den,SC.den,hv]
     have hgoal:Wp tx P E R A B ops i (s.set depth gd (.c (.bool (.lit v)))) ρ cont:=by
      split at hw
      ·rename_i hw'
       exact WH hps hnt hKB (by rw [hsame];exact hB) hi hbd (.inr (.inl ⟨j,want,gd,v,hg,hgd,by simp,hval,by simp [hw']⟩)) hw
      ·rename_i hw'
       exact VT hnt hKB hi hbd (.inr (.inl ⟨j,want,gd,v,hg,hgd,by simp,hval,by simp [hw']⟩)) hw
     unfold Wp at hgoal ⊢
     rw [hsame] at hgoal
     exact hgoal
    cases hv:b.den ρ with
    | true => exact hcase true hv (ht hv)
    | false => exact hcase false hv (hf hv)
   ·exact h.elim
def Zgi:Nat→List Stp→List Log
 | _, [] => []
 | i, s :: ss => Zgi (i + 1) ss ++ [⟨i, s.F, s.ups.map (·.1)⟩]
theorem Zba:∀ (ss:List Stp) (i j:Nat) (s:Stp),ss[j]? = Xa s→(⟨i+j,s.F,s.ups.map (·.1)⟩:Log)∈Zgi i ss
 | [], i, j, s, h => by simp at h
 | s0 :: ss, i, 0, s, h => by
  simp only [XK,Xf] at h
  subst h
  simp [Zgi]
 | s0 :: ss, i, j + 1, s, h => by
  have:=Zba ss (i+1) j s (by simpa using h)
  rw [show i+(j+1)=i+1+j by omega]
  exact Xs.2 (.inl this)
theorem Vh (hps:EnvSound P E) (hnt:E.top≤1024) (hKB:∀ d j,tx.kp d j=Xb→B d=Xb) {tks:Nat→Bool} {k:Tr→Nat→List Log→STree} : ∀ (l:List Oper) (i:Nat) (s:Tr) (n:Nat) (logs:List Log) (ρ:Nat→V),(∀ j,l[j]? = ops[i+j]?)→(∀ d,B d=Xb→Zd7 (ZO E s ρ d))→YK E s n→
  (Zkv P E tx tks B ops l i s n logs k).wp P R A ρ→∃ (ss:List Stp) (ρ':Nat→V) (n':Nat) (s':Tr),ss.length=l.length∧YK E s' n'∧(k s' n' (Zgi i ss++logs)).wp P R A ρ'∧
   Zf4 tx P E.nt ops (fun d=>B d=Xb) i (ZO E s ρ) ss∧ZO E s' ρ'=Zgu (ZO E s ρ) ss
 | [], i, s, n, logs, ρ, _, _, hs, h => ⟨[], ρ, n, s, rfl, hs, h, trivial, rfl⟩
 | o :: l, i, s, n, logs, ρ, hl, hB, hs, h => by
  have h0:ops[i]? = Xa o:=by simpa using (hl 0).symm
  obtain ⟨st,ρ1,n1,s1,g1,g2,g3,g4⟩:=ZfW hps hnt hKB hB h0 hs h
  obtain ⟨ss,ρ2,n2,s2,k1,k2,k3,k4,k5⟩:=Vh hps hnt hKB l (i+1) s1 n1 _ ρ1 (fun j=>by
   have:=hl (j+1)
   rw [show i+(j+1)=i+1+j by omega] at this
   simpa using this) (by rw [g4];exact ZeR _ _ g3.2.1 hB) g1 g2
  refine ⟨st::ss,ρ2,n2,s2,by simp [k1],k2,?_,⟨g3,?_⟩,?_⟩
  ·simp only [Zgi,Xw,List.singleton_append]
   exact k3
  ·rw [← g4];exact k4
  ·simp only [Zgu]
   rw [← g4];exact k5
theorem ZkT {a b:List Nat} (h:Zte a b=Xb):∀ d∈a,d∉b:=by
 intro d hd
 simp only [Zte,XC] at h
 simpa using h d hd
theorem Zat {E:Env} (s:Tr):∀ i,E.top≤i→gE E s i = .dead:=fun i hi=>by unfold gE;rw [if_neg (by omega)]
theorem Zo8 {c:Ctx} {σ:Nat→AV} {tm:Array Value} {w:World} {lim:Nat→Nat} {X:Nat→Nat→Option Nat} (h:Sim c σ tm w lim X) {i k:Nat} (hr:Jl (σ i) i k):False:=by
 obtain ⟨p,hp⟩:=Y9 h hr
 rcases hr with hr | ⟨_,hr⟩ <;> rw [hr] at hp<;>cases hp
theorem ZsV {draw:Bool} {d j:Nat} (h:(ZlD P E draw ops s).kp d j=Xb):ZnH (gE E s d)=Xb:=by
 cases draw with
 | false => cases h
 | true =>
  simp only [ZlD,Odr.kp,TT,U4] at h
  exact h.2
theorem Zgc (hm:P.follows .mixedOrders=Xb) (hps:EnvSound P E) (hnt:E.top≤1024) {id:Nat} {draw:Bool} {k:Tr→Nat→STree} {tks:Nat→Bool} (hKB:∀ d j,(ZlD P E draw ops s).kp d j=Xb→B d=Xb) (hB:∀ d,B d=Xb→Zd7 (ZO E s ρ d)) (hs:YK E s n)
  (h:(Zkv P E (ZlD P E draw ops s) tks B ops ops.toList 0 s n [] fun s' n' logs=>if draw=Xb then (if Zh2 ops logs=Xb then k s' n' else .stuck 114) else k s' n').wp P R A ρ)
  {c:Ctx} (hcP:c.P=P) (hcn:c.nt=E.nt) {tm:Array Value} {w:World} {lim:Nat→Nat} {X:Nat→Nat→Option Nat} (hsim:Sim c (ZO E s ρ) tm w lim X) {Q:Exit→Act→World→Prop}
  (hk:∀ s' n' ρ',YK E s' n'→(k s' n').wp P R A ρ'→∀ tm' w' lim' X',Sim c (ZO E s' ρ') tm' w' lim' X'→Q .normal ⟨tm',[]⟩ w'):(Code.region id ops draw).wp P Q ⟨tm,[]⟩ w:=by
 obtain ⟨ss,ρ',n',s',h1,h2,h3,h4,h5⟩:=Vh hps hnt hKB ops.toList 0 s n [] ρ (by simp) hB hs h
 have hlen:ss.length=ops.size:=by simpa using h1
 cases draw with
 | false =>
  refine wp_region ?_
  rw [List.range_eq_range',← hlen]
  refine Wk hcP hcn ss 0 _ tm w lim X h4 hB hsim fun tm' w' lim' X' hs'=>hk s' n' ρ' h2 (by simpa using h3) tm' w' lim' X' ?_
  rw [h5];exact hs'
 | true =>
  simp only [if_true] at h3
  split at h3
  ·rename_i hi
   rw [Us] at hi
   simp only [Zh2,Xx,CheckFast.beforeF_eq] at hi
   obtain ⟨hlow,hind⟩:=hi
   refine wp_region_any hm ?_
   have hsd:Sim c (ZO E s ρ) tm w.drew lim X:=hsim.world (ZU.refl w lim fun _=>False).drew fun b hb=>hb.elim
   refine Znr hcP hcn h4 (fun d i k hd hr=>?_) hB hlen ?_ ?_ (fun tm' w' lim' X' hs'=>hk s' n' ρ' h2 h3 tm' w' lim' X' (by rw [h5];exact hs')) ops.size _ tm w.drew lim X (by simp) ?_ ?_ ?_
   ·have hd':(ZP (gE E s) d E.top).isEmpty=Xb:=by
     rcases Te.1 hd with h0 | h0
     ·simp only [Xx] at h0
      exact h0.1.2
     ·by_cases he:(ZP (gE E s) d E.top).isEmpty=Xb
      ·exact he
      ·dsimp only at h0;rw [if_neg he] at h0;cases h0
    rw [Tw] at hd'
    have hda:=(JB (g:=gE E s) ρ (Zat s) (d:=d)).2 i k
    by_cases hid:i=d
    ·subst hid
     exact Zo8 hsim hr
    ·have:=hda hid hr
     rw [hd'] at this
     cases this
   ·intro i o hio e he hb
    rw [XC] at hlow
    have:=hlow (o,i) (by
     rw [List.mem_zipIdx_iff_getElem?]
     simpa using hio)
    rw [Array.all_eq_true_iff_forall_mem] at this
    have:=this e he
    simpa [hb] using this
   ·rintro i j a b hia hjb hji ⟨S,hS,hSi,hSj⟩
    rw [XC] at hind
    have m1:=Zba ss 0 i a hia
    have m2:=Zba ss 0 j b hjb
    rw [XM] at m1 m2
    have:=hind _ m1
    rw [XC] at this
    have:=this _ m2
    simp only [US,Xx,UK,decide_eq_false_iff_not] at this
    rcases this with (this | this) | this
    ·exact (this hji).elim
    ·exact (hSj (Zfd hS i j hSi this)).elim
    ·exact ⟨ZkT this.1,ZkT this.2⟩
   ·intro k o hk hl
    have hlt:=(Ua.1 hk).1
    simp [Uc,hlt] at hl
   ·have:=List.countP_le_length (p:=fun i=>!(Array.replicate ops.size Xc).getD i Xc) (l:=Un ops.size)
    simpa using this
   ·rw [Zcp]
    ·exact hsd
    ·intro j _ hj
     simp [Uc]
  ·exact h3.elim
end
inductive YT (P:Program):AV→AV→Prop
 | same {x : AV} (h : x.isCell = Xb ∨ ∃ b e xs, x = .own b e xs) : YT P x x
 | nil {s s' : Nat} {f : Bool} : YT P (.slice Xb s []) (.slice f s' [])
 | imm {f : Bool} {s : Nat} {xs : List (List AV)} : YT P (.slice f s xs) (.slice Xc s xs)
 | immN {f : Bool} {s s' : Nat} : YT P (.slice f s []) (.slice Xc s' [])
 | own {e : TypeId} {xs : List (List AV)} : YT P (.own Xc e xs) (.slice Xc (P.cellsOf e) xs)
 | ownN {b b' : Bool} {e : TypeId} (h : e < 2097152) : YT P (.own b e []) (.own b' e [])
 | ownZ {b : Bool} {e : TypeId} {s : Nat} : YT P (.own b e []) (.slice Xc s [])
 | give {b : Bool} {s : Nat} {e : TypeId} (h : e < 2097152) : YT P (.slice Xb s []) (.own b e [])
theorem ZhP {w:World} {lim:Nat→Nat} {b:Bool} {e:TypeId} {xs:List (List AV)} {v:Value} (h:Rep w lim (.own b e xs) v):False:=by cases h
theorem Wj {P:Program} {w:World} {lim:Nat→Nat} {b b':Bool} {e:TypeId} {v:Value} {ob:Option Nat} (h:Vz P w lim b e [] v ob):Vz P w lim b' e [] v ob:=by
 rcases h with ⟨us,h1,h2,h3,h4,h5,h6⟩ | h
 ·have hu:us = []:=Ub (by rw [h1.1];simp)
  subst hu
  refine .inl ⟨[],h1,h2,fun b0 hb=>?_,h4,h5,h6⟩
  have:=h3 b0 hb
  rw [this]
  simp
 ·exact .inr h
theorem Zfz {P:Program} {w:World} {lim:Nat→Nat} {b:Bool} {e:TypeId} {v:Value} {ob:Option Nat} (h:ZY P w lim b e [] v ob):Vz P w lim b e [] v ob∨Vz P w lim Xb (bT e) [] v ob∧Zg P e=Xb:=by
 rcases h with h | h | ⟨_,⟨_,_,_,_,_,_,_,_,_,_,_,h,_⟩ | h | ⟨_,_,_,_,_,_,_,_,_,_,_,h,_⟩⟩
 ·exact .inl (.inl h)
 ·exact .inl (.inr h)
 ·obtain ⟨_,h⟩:=h;cases h
 ·exact .inr ⟨h.2.2,h.1⟩
 ·cases h
theorem Zlt {P:Program} {w:World} {lim:Nat→Nat} {b b':Bool} {e:TypeId} {v:Value} {ob:Option Nat} (he:e < 2097152) (h:ZY P w lim b e [] v ob):ZY P w lim b' e [] v ob:=by
 rcases Zfz h with h | ⟨_,h⟩
 ·exact (Wj h).own
 ·rw [YI he] at h;cases h
theorem Zrb {P:Program} {w:World} {lim:Nat→Nat} {b:Bool} {e:TypeId} {s:Nat} {v:Value} {ob:Option Nat} (h:ZY P w lim b e [] v ob):Rep w lim (.slice Xc s []) v:=by
 rcases Zfz h with h | ⟨h,_⟩
 ·exact V2 (f:=Xc) (fun h=>h) (ZY.rep (Wj (b':=Xc) h).own Xc rfl)
 ·exact V2 (f:=Xc) (fun h=>h) (ZY.rep (Wj (b':=Xc) h).own Xc rfl)
theorem ZnP {P:Program} {w:World} {lim:Nat→Nat} {x y:AV} {v:Value} (h:Rep w lim x v) (hw:YT P x y) (hy:y.isCell=Xb):Rep w lim y v:=by
 cases hw with
 | same _ => exact h
 | nil => exact V2 (fun _ => rfl) h
 | imm => exact Zik h
 | immN => exact V2 (fun h => by cases h) h
 | own => exact (ZhP h).elim
 | ownN _ => exact (ZhP h).elim
 | ownZ => exact (ZhP h).elim
 | give _ => cases hy
theorem Zmi {P:Program} {w:World} {lim:Nat→Nat} {ob:Option Nat} {x y:AV} {v:Value} (h:J9 P w lim ob x v) (hw:YT P x y):∃ ob',(ob'=ob∨ob'=Xe)∧((∃ b e xs,x = .own b e xs)→ob'=ob)∧J9 P w lim ob' y v:=by
 cases hw with
 | same _ => exact ⟨ob, .inl rfl, fun _ => rfl, h⟩
 | nil => exact ⟨ob, .inl rfl, fun _ => rfl, V2 (fun _ => rfl) h⟩
 | imm => exact ⟨ob, .inl rfl, fun _ => rfl, Zik h⟩
 | immN => exact ⟨ob, .inl rfl, fun _ => rfl, V2 (fun h => by cases h) h⟩
 | own => exact ⟨ob, .inl rfl, fun _ => rfl, ZY.rep h Xc rfl⟩
 | ownN he => exact ⟨ob, .inl rfl, fun _ => rfl, Zlt he h⟩
 | ownZ => exact ⟨ob, .inl rfl, fun _ => rfl, Zrb h⟩
 | give _ => exact ⟨Xe, .inr rfl, fun ⟨_, _, _, h⟩ => (by cases h), Zan h⟩
inductive ZbD (P:Program):AV→AV→Prop
 | cell {x y : AV} (h : YT P x y) : ZbD P x y
 | agg {cs cs' : List AV} (hl : cs.length = cs'.length) (hc : ∀ c ∈ cs', c.isCell = Xb) (h : ∀ (i : Nat) (c c' : AV), cs[i]? = Xa c → cs'[i]? = Xa c' → YT P c c') : ZbD P (.agg cs) (.agg cs')
theorem ZrK {w:World} {lim:Nat→Nat} {cs:List AV} {v:Value} (h:Rep w lim (.agg cs) v):∃ vs:List Value,v = .agg vs.toArray∧cs.length=vs.length∧
  ∀ (i:Nat) (c:AV) (v:Value),cs[i]? = Xa c→vs[i]? = Xa v→Rep w lim c v:=by
 cases h with
 | agg hl hc hr => exact ⟨_, rfl, hl, hr⟩
theorem Zf0 {P:Program} {w:World} {lim:Nat→Nat} {ob:Option Nat} {x y:AV} {v:Value} (h:J9 P w lim ob x v) (hw:ZbD P x y):∃ ob',(ob'=ob∨ob'=Xe)∧((∃ b e xs,x = .own b e xs)→ob'=ob)∧J9 P w lim ob' y v:=by
 cases hw with
 | cell hw => exact Zmi h hw
 | @agg cs cs' hl hc hp =>
  refine ⟨ob,.inl rfl,fun _=>rfl,?_⟩
  obtain ⟨vs,rfl,h1,h2⟩:=ZrK (show Rep w lim (.agg cs) v from h)
  refine Rep.agg (by omega) hc fun i c' u hc' hu=>?_
  obtain ⟨c,hcc⟩:∃ c,cs[i]? = Xa c:=⟨_,Xq (by rw [hl];exact (Xn.1 hc').1)⟩
  exact ZnP (h2 i c u hcc hu) (hp i c c' hcc hc') (hc c' (Xj hc'))
theorem ZaK {P:Program} {w:World} {lim:Nat→Nat} {cs cs':List AV} {us:List Value} {Y:Nat→Option Nat} (hl:cs.length=cs'.length) (h:∀ (i:Nat) (c:AV) (u:Value),cs[i]? = Xa c→us[i]? = Xa u→J9 P w lim (Y i) c u)
  (hw:∀ (i:Nat) (c c':AV),cs[i]? = Xa c→cs'[i]? = Xa c'→ZbD P c c') :
  ∃ r:Nat→Option Nat,(∀ i,r i=Y i∨r i=Xe)∧(∀ (i:Nat) (c':AV),i < us.length→cs'[i]? = Xa c'→(∃ b e xs,cs[i]? = Xa (.own b e xs))→r i=Y i)∧∀ (i:Nat) (c':AV) (u:Value),cs'[i]? = Xa c'→us[i]? = Xa u→J9 P w lim (r i) c' u:=by
 have key:∀ i,∃ ob:Option Nat,(ob=Y i∨ob=Xe)∧(∀ (c':AV),i < us.length→cs'[i]? = Xa c'→(∃ b e xs,cs[i]? = Xa (.own b e xs))→ob=Y i)∧∀ (c':AV) (u:Value),cs'[i]? = Xa c'→us[i]? = Xa u→J9 P w lim ob c' u:=by
  intro i
  cases hc':cs'[i]? with
  | none => exact ⟨Xe, .inr rfl, fun c' _ h => (by cases h), fun c' u h => by cases h⟩
  | some c' =>
   cases hu:us[i]? with
   | none => exact ⟨Xe, .inr rfl, fun c' hlt _ => (by have := List.getElem?_eq_none_iff.1 hu; omega), fun c' u _ h => by cases h⟩
   | some u =>
    obtain ⟨c,hc⟩:∃ c,cs[i]? = Xa c:=⟨_,Xq (by rw [hl];exact (Xn.1 hc').1)⟩
    obtain ⟨ob,h1,h3,h2⟩:=Zf0 (h i c u hc hu) (hw i c c' hc hc')
    refine ⟨ob,h1,fun _ _ _ ⟨b,e,xs,hx⟩=>h3 ⟨b,e,xs,by rw [hc] at hx;exact Option.some.inj hx⟩,fun c2 u2 e1 e2=>?_⟩
    cases e1
    cases e2
    exact h2
 obtain ⟨r,hr⟩:=Tu key
 exact ⟨r,fun i=>(hr i).1,fun i=>(hr i).2.1,fun i=>(hr i).2.2⟩
inductive Y2 (P:Program):AV→AV→Prop
 | dead {x : AV} : Y2 P x .dead
 | comp {x y : AV} (h : ZbD P x y) : Y2 P x y
 | tuple {cs cs' : List AV} (hl : cs.length = cs'.length) (h : ∀ (i : Nat) (c c' : AV), cs[i]? = Xa c → cs'[i]? = Xa c' → ZbD P c c') : Y2 P (.tuple cs) (.tuple cs')
 | box {cs cs' : List AV} (hl : cs.length = cs'.length) (h : ∀ (i : Nat) (c c' : AV), cs[i]? = Xa c → cs'[i]? = Xa c' → YT P c c') : Y2 P (.box cs) (.box cs')
 | gbox {cs cs' : List AV} (hl : cs.length = cs'.length) (h : ∀ (i : Nat) (c c' : AV), cs[i]? = Xa c → cs'[i]? = Xa c' → YT P c c') : Y2 P (.gbox cs) (.gbox cs')
 | aggo {cs cs' : List AV} (hl : cs.length = cs'.length) (h : ∀ (i : Nat) (c c' : AV), cs[i]? = Xa c → cs'[i]? = Xa c' → YT P c c') : Y2 P (.aggo cs) (.aggo cs')
theorem YR {P:Program} {x y:AV} (h:YT P x y):y.isCell=Xb∨∃ b e xs,y = .own b e xs:=by
 cases h with
 | same h => exact h
 | nil => exact .inl rfl
 | imm => exact .inl rfl
 | immN => exact .inl rfl
 | own => exact .inl rfl
 | ownN _ => exact .inr ⟨_, _, _, rfl⟩
 | ownZ => exact .inl rfl
 | give _ => exact .inr ⟨_, _, _, rfl⟩
theorem ZaV {P:Program} {x y:AV} (h:YT P x y):x.isCell=Xb∨∃ b e xs,x = .own b e xs:=by
 cases h with
 | same h => exact h
 | nil => exact .inl rfl
 | imm => exact .inl rfl
 | immN => exact .inl rfl
 | own => exact .inr ⟨_, _, _, rfl⟩
 | ownN _ => exact .inr ⟨_, _, _, rfl⟩
 | ownZ => exact .inr ⟨_, _, _, rfl⟩
 | give _ => exact .inl rfl
theorem ZdC {P:Program} {e e':TypeId} {xs xs':List (List AV)} (h:YT P (.own Xb e xs) (.own Xb e' xs')):e'=e∧xs'=xs:=by
 cases h with
 | same _ => exact ⟨rfl, rfl⟩
 | ownN _ => exact ⟨rfl, rfl⟩
theorem ZeE {P:Program} {x:AV} {e:TypeId} {xs:List (List AV)} (h:YT P x (.own Xb e xs)) (hd:Zg P e=Xb):x = .own Xb e xs:=by
 cases h with
 | same _ => rfl
 | ownN he => rw [YI he] at hd; cases hd
 | give he => rw [YI he] at hd; cases hd
theorem ZjY {P:Program} {x:AV} {e:TypeId} {xs:List (List AV)} (h:ZbD P x (.own Xb e xs)) (hd:Zg P e=Xb):x = .own Xb e xs:=by
 cases h with
 | cell h => exact ZeE h hd
theorem Wn {P:Program} {cs cs':List AV} (hl:cs.length=cs'.length) (h:∀ (i:Nat) (c c':AV),cs[i]? = Xa c→cs'[i]? = Xa c'→ZbD P c c') {k:Nat} {e:TypeId} {xs:List (List AV)}
  (hy:(match cs'[k]? with | some (.own Xb e xs)=>Xa (e,xs) | _=>Xe)=Xa (e,xs)) (hd:Zg P e=Xb):(match cs[k]? with | some (.own Xb e xs)=>Xa (e,xs) | _=>Xe)=Xa (e,xs):=by
 split at hy
 ·rename_i e' xs' hk
  simp only [Xf,Xo] at hy
  obtain ⟨rfl,rfl⟩:=hy
  obtain ⟨c,hc⟩:∃ c,cs[k]? = Xa c:=⟨_,Xq (by rw [hl];exact (Xn.1 hk).1)⟩
  have:=ZjY (h k c _ hc hk) hd
  subst this
  rw [hc]
 ·cases hy
theorem ZeH {P:Program} {x y:AV} (h:Y2 P x y) {k:Nat} {e:TypeId} {xs:List (List AV)} (hy:Z5 y k=Xa (e,xs)) (hd:Zg P e=Xb):Z5 x k=Xa (e,xs):=by
 cases h with
 | dead => cases k <;> cases hy
 | comp h =>
  cases h with
  | agg _ _ _ => cases k <;> cases hy
  | cell h =>
   rcases YR h with hc | ⟨b,e',xs',rfl⟩
   ·cases y<;>simp [AV.isCell] at hc<;>(cases k<;>cases hy)
   ·cases b with
    | false => cases k <;> cases hy
    | true =>
     cases k with
     | zero =>
      simp only [Z5,Xf,Xo] at hy
      obtain ⟨rfl,rfl⟩:=hy
      rw [ZeE h hd]
      rfl
     | succ k => cases hy
 | tuple hl h => cases k with | zero => cases hy | succ k => exact Wn hl h hy hd
 | box hl h => cases k with | zero => cases hy | succ k => exact Wn hl (fun i c c' h1 h2 => .cell (h i c c' h1 h2)) hy hd
 | gbox hl h => cases k with | zero => cases hy | succ k => exact Wn hl (fun i c c' h1 h2 => .cell (h i c c' h1 h2)) hy hd
 | aggo hl h => cases k with | zero => cases hy | succ k => exact Wn hl (fun i c c' h1 h2 => .cell (h i c c' h1 h2)) hy hd
theorem ZeG {P:Program} {w:World} {lim:Nat→Nat} {Y:Nat→Option Nat} {cs cs':List AV} {v:Value} (h:ZN P w lim Y cs v) (hl:cs.length=cs'.length)
  (hp:∀ (i:Nat) (c c':AV),cs[i]? = Xa c→cs'[i]? = Xa c'→YT P c c'):∃ r:Nat→Option Nat,(∀ k,r k=Y k∨r k=Xe)∧r 0=Y 0∧(∀ k,(∃ p,Zr (.box cs) k=Xa p)→r k=Y k)∧ZN P w lim r cs' v:=by
 obtain ⟨b,arr,t,h1,rfl,h3,h4,h5,h6,h7⟩:=h
 obtain ⟨r,g1,g3,g2⟩:=ZaK (P:=P) (w:=w) (lim:=lim) (us:=arr.toList) (Y:=fun i=>Y (i+1)) hl (fun i c u hc hu=>h7 i c u hc (by simpa using hu)) (fun i c c' hc hc'=>.cell (hp i c c' hc hc'))
 refine ⟨fun k=>match k with | 0=>Y 0 | k+1=>r k,fun k=>?_,rfl,fun k hk=>?_,?_⟩
 ·cases k with
  | zero => exact .inl rfl
  | succ k => exact g1 k
 ·obtain ⟨⟨e,xs⟩,hk⟩:=hk
  rcases ZG hk with ⟨h,_⟩ | ⟨ds,q,hd,rfl,hq⟩ | ⟨_,_,h,_⟩
  case inr.inr=>cases h
  ·cases h
  ·cases hd
   have hlt:=(Xn.1 hq).1
   exact g3 q _ (by simp;omega) (Xq (by rw [← hl];exact hlt)) ⟨_,_,_,hq⟩
 ·refine ⟨b,arr,t,h1,rfl,h3,by rw [h4,hl],h5,fun c hc=>?_,fun i c u hc hu=>g2 i c u hc (by simpa using hu)⟩
  obtain ⟨i,hi⟩:=XU.1 hc
  obtain ⟨c0,hc0⟩:∃ c0,cs[i]? = Xa c0:=⟨_,Xq (by rw [hl];exact (Xn.1 hi).1)⟩
  exact (YR (hp i c0 c hc0 hi)).imp id .inl
theorem YP {P:Program} {x y:AV} (h:ZbD P x y):y.isB=Xc:=by
 cases h with
 | agg _ _ _ => rfl
 | cell h =>
  rcases YR h with hy | ⟨_,_,_,rfl⟩
  ·cases y<;>first | rfl | (simp [AV.isCell] at hy)
  ·rfl
theorem Zmc {P:Program} {x y:AV} (h:Y2 P x y) (hy:y.isG=Xb):x.isG=Xb:=by
 cases h with
 | gbox _ _ => rfl
 | comp h => have := YP h; rw [Za1 hy] at this; cases this
 | _ => cases hy
theorem Zou {P:Program} {x y:AV} (h:ZbD P x y):(∀ d o,y≠.ptr d o)∧(∀ d k,y≠.mref d k)∧(∀ g ds,y≠.clo g ds)∧∀ d k o,y≠.eref d k o:=by
 cases h with
 | agg _ _ _ => exact ⟨fun _ _ h => (by cases h), fun _ _ h => (by cases h), fun _ _ h => (by cases h), fun _ _ _ h => (by cases h)⟩
 | cell hw =>
  refine ⟨fun _ _ e=>?_,fun _ _ e=>?_,fun _ _ e=>?_,fun _ _ _ e=>?_⟩ <;> subst e<;>rcases YR hw with h | ⟨_,_,_,h⟩ <;> cases h
theorem Wq {P:Program} {x y:AV} (h:Y2 P x y):(∀ d o,y≠.ptr d o)∧(∀ d k,y≠.mref d k)∧(∀ g ds,y≠.clo g ds)∧∀ d k o,y≠.eref d k o:=by
 cases h with
 | comp hw => exact Zou hw
 | _ => exact ⟨fun _ _ h => (by cases h), fun _ _ h => (by cases h), fun _ _ h => (by cases h), fun _ _ _ h => (by cases h)⟩
theorem Zce {P:Program} {x y:AV} (h:Y2 P x y) {k:Nat} {e e':TypeId} {xs xs':List (List AV)} (hx:Zr x k=Xa (e,xs)) (hy:Zr y k=Xa (e',xs')):e'=e∧xs'=xs:=by
 rcases ZG hx with ⟨rfl,rfl⟩ | ⟨cs,q,rfl,rfl,hq⟩ | ⟨cs,q,rfl,rfl,hq⟩
 ·rcases ZG hy with ⟨rfl,_⟩ | ⟨_,_,_,h0,_⟩ | ⟨_,_,_,h0,_⟩
  ·cases h with
   | comp hw =>
    cases hw with
    | cell hc => exact ZdC hc
  ·cases h0
  ·cases h0
 ·rcases ZG hy with ⟨_,h0⟩ | ⟨cs',q',rfl,h0,hq'⟩ | ⟨cs',q',rfl,h0,hq'⟩
  ·cases h0
  ·cases h0
   cases h with
   | comp hw => have := YP hw; cases this
   | box hl hp => exact ZdC (hp q _ _ hq hq')
  ·cases h with
   | comp hw => have := YP hw; cases this
 ·rcases ZG hy with ⟨_,h0⟩ | ⟨cs',q',rfl,h0,hq'⟩ | ⟨cs',q',rfl,h0,hq'⟩
  ·cases h0
  ·cases h with
   | comp hw => have := YP hw; cases this
  ·cases h0
   cases h with
   | comp hw => have := YP hw; cases this
   | gbox hl hp => exact ZdC (hp q _ _ hq hq')
theorem ZgH {P:Program} {w:World} {lim:Nat→Nat} {X:Nat→Nat→Option Nat} {σ:Nat→AV} {d:Nat} {x y:AV} {v:Value} (h:ZZ P w lim X σ d x v) (hw:Y2 P x y) :
  ∃ r:Nat→Option Nat,(∀ k,r k=X d k∨r k=Xe)∧(y.isB=Xb→r 0=X d 0)∧(∀ k,(∃ p,Zr x k=Xa p)→(∃ p,Zr y k=Xa p)→r k=X d k)∧∀ (X':Nat→Nat→Option Nat) (σ':Nat→AV) (d':Nat),X' d'=r→ZZ P w lim X' σ' d' y v:=by
 cases hw with
 | dead => exact ⟨fun _ => Xe, fun _ => .inr rfl, fun h => (by cases h), fun k _ ⟨p, hp⟩ => (by rcases ZG (e := p.1) (xs := p.2) hp with ⟨h, _⟩ | ⟨_, _, h, _⟩ | ⟨_, _, h, _⟩ <;> cases h), fun _ _ _ _ => trivial⟩
 | comp hw =>
  have hnb:=YP hw
  have hc:J9 P w lim (X d 0) x v:=by
   cases hw with
   | agg hl hc hp => exact h
   | cell hw =>
    rcases ZaV hw with hx | ⟨b,e,xs,rfl⟩
    ·cases x<;>simp [AV.isCell] at hx<;>exact h
    ·exact h
  obtain ⟨ob,h1,h4,h2⟩:=Zf0 hc hw
  refine ⟨fun k=>if k=0 then ob else Xe,fun k=>?_,fun h=>by (rw [hnb] at h;cases h),fun k ⟨p,hp⟩ _=>?_,fun X' σ' d' hX=>?_⟩
  ·dsimp only
   split
   ·rename_i hk;subst hk;exact h1
   ·exact .inr rfl
  ·rcases ZG (e:=p.1) (xs:=p.2) hp with ⟨hx,rfl⟩ | ⟨cs,q,hx,_⟩ | ⟨cs,q,hx,_⟩
   case inr.inr=>
    subst hx
    cases hw with
    | cell hw => rcases ZaV hw with h | ⟨_, _, _, h⟩ <;> cases h
   ·exact h4 ⟨_,_,_,hx⟩
   ·subst hx
    cases hw with
    | cell hw => rcases ZaV hw with h | ⟨_, _, _, h⟩ <;> cases h
  ·have h3:X' d' 0=ob:=by rw [hX];rfl
   cases hw with
   | agg hl hc hp => exact h2
   | cell hw =>
    rcases YR hw with hy | ⟨b,e,xs,rfl⟩
    ·cases y<;>simp [AV.isCell] at hy<;>exact h2
    ·show ZY P w lim b e xs v (X' d' 0)
     rw [h3]
     exact h2
 | @tuple cs cs' hl hp =>
  obtain ⟨us,rfl,h2,h3⟩:=h
  obtain ⟨r,g1,_,g2⟩:=ZaK (Y:=fun i=>X d (i+1)) hl h3 hp
  refine ⟨fun k=>match k with | 0=>Xe | k+1=>r k,fun k=>?_,fun h=>(by cases h),fun k ⟨p,hp⟩ _=>(by rcases ZG (e:=p.1) (xs:=p.2) hp with ⟨h,_⟩ | ⟨_,_,h,_⟩ | ⟨_,_,h,_⟩ <;> cases h),fun X' σ' d' hX=>?_⟩
  ·cases k with
   | zero => exact .inr rfl
   | succ k => exact g1 k
  ·refine ⟨us,rfl,by rw [h2,hl],fun i c u hc hu=>?_⟩
   have:X' d' (i+1)=r i:=by rw [hX]
   rw [this]
   exact g2 i c u hc hu
 | @box cs cs' hl hp =>
  obtain ⟨r,g1,g2,g4,g3⟩:=ZeG h hl hp
  exact ⟨r,g1,fun _=>g2,fun k hk _=>g4 k hk,fun X' σ' d' hX=>by (show ZN P w lim (X' d') cs' v;rw [hX];exact g3)⟩
 | @gbox cs cs' hl hp =>
  obtain ⟨v',h⟩:=h
  obtain ⟨r,g1,g2,g4,g3⟩:=ZeG h hl hp
  exact ⟨r,g1,fun _=>g2,fun k hk _=>g4 k (by cases k<;>exact hk),fun X' σ' d' hX=>⟨v',by rw [hX];exact g3⟩⟩
 | @aggo cs cs' hl hp =>
  obtain ⟨us,rfl,h2,h4,h3⟩:=h
  obtain ⟨r,g1,_,g2⟩:=ZaK (Y:=fun i=>X d (i+1)) hl h3 (fun i c c' h1 h2=>.cell (hp i c c' h1 h2))
  refine ⟨fun k=>match k with | 0=>Xe | k+1=>r k,fun k=>?_,fun h=>(by cases h),fun k ⟨p,hp⟩ _=>(by rcases ZG (e:=p.1) (xs:=p.2) hp with ⟨h,_⟩ | ⟨_,_,h,_⟩ | ⟨_,_,h,_⟩ <;> cases h),fun X' σ' d' hX=>?_⟩
  ·cases k with
   | zero => exact .inr rfl
   | succ k => exact g1 k
  ·refine ⟨us,rfl,by rw [h2,hl],⟨fun c hc=>?_,h4.2⟩,fun i c u hc hu=>?_⟩
   ·obtain ⟨i,hi⟩:=XU.1 hc
    obtain ⟨c0,hc0⟩:∃ c0,cs[i]? = Xa c0:=⟨_,Xq (by rw [hl];exact (Xn.1 hi).1)⟩
    exact (YR (hp i c0 c hc0 hi)).imp id .inl
   ·have:X' d' (i+1)=r i:=by rw [hX]
    rw [this]
    exact g2 i c u hc hu
theorem ZU.wider {w:World} {lim:Nat→Nat} {w':World} {lim':Nat→Nat} {S S':Nat→Prop} (h:ZU w lim w' lim' S) (hs:∀ b,S b→S' b):ZU w lim w' lim' S':=
 ⟨h.os,h.tape,h.output,h.size,h.frz,fun b hb hn=>h.blk b hb fun hS=>hn (hs b hS),h.ext⟩
def Zuf (bs:List AV) (a b:AV):Prop:=∃ g ds,a = .clo g ds∧b = .clo g ds∧∀ d∈ds,(ZW bs d).isB=Xb
def Zsq (bs:List AV) (a b:AV):Prop:=∃ j q,a = .mref j q∧b = .mref j q∧∃ p,Zr (ZW bs j) q=Xa p
def VG (P:Program) (aZ bs:List AV):Prop:=aZ.length=bs.length∧∀ (i:Nat) (a b:AV),aZ[i]? = Xa a→bs[i]? = Xa b→Y2 P a b∨Zuf bs a b∨Zsq bs a b
theorem Zag {P:Program} {aZ bs:List AV} (h:VG P aZ bs) (i:Nat):Y2 P (ZW aZ i) (ZW bs i)∨Zuf bs (ZW aZ i) (ZW bs i)∨Zsq bs (ZW aZ i) (ZW bs i):=by
 cases hb:bs[i]? with
 | none =>
  have:ZW bs i = .dead:=by simp [ZW,hb]
  rw [this]
  exact .inl .dead
 | some b =>
  obtain ⟨a,ha⟩:∃ a,aZ[i]? = Xa a:=⟨_,Xq (by rw [h.1];exact (Xn.1 hb).1)⟩
  have h1:ZW aZ i=a:=by simp [ZW,ha]
  have h2:ZW bs i=b:=by simp [ZW,hb]
  rw [h1,h2]
  exact h.2 i a b ha hb
theorem ZfJ {P:Program} {aZ bs:List AV} (h:VG P aZ bs) {i:Nat} (hi:(ZW bs i).isG=Xb):(ZW aZ i).isG=Xb:=by
 rcases Zag h i with h1 | ⟨g,ds,_,h1,_⟩ | ⟨_,_,_,h1,_⟩
 ·exact Zmc h1 hi
 ·rw [h1] at hi;cases hi
 ·rw [h1] at hi;cases hi
theorem ZgP:∀ (aZ bs:List AV),aZ.length=bs.length→(∀ (i:Nat) (a b:AV),aZ[i]? = Xa a→bs[i]? = Xa b→b.isG=Xb→a.isG=Xb)→bs.countP AV.isG≤aZ.countP AV.isG
 | [], [], _, _ => XA _
 | [], _ :: _, h, _ => by simp at h
 | _ :: _, [], h, _ => by simp at h
 | a :: aZ, b :: bs, hl, h => by
  have ih:=ZgP aZ bs (by simpa using hl) fun i x y hx hy=>h (i+1) x y (by simpa using hx) (by simpa using hy)
  have h0:=h 0 a b rfl rfl
  rw [UZ,UZ]
  by_cases hb:b.isG=Xb
  ·rw [if_pos hb,if_pos (h0 hb)];omega
  ·rw [if_neg hb];split<;>omega
theorem Zhk {P:Program} {aZ bs:List AV} (h:VG P aZ bs):bs.countP AV.isG≤aZ.countP AV.isG:=
 ZgP aZ bs h.1 fun i a b ha hb hg=>by
  have h1:ZW aZ i=a:=by simp [ZW,ha]
  have h2:ZW bs i=b:=by simp [ZW,hb]
  have:=ZfJ h (i:=i) (by rw [h2];exact hg)
  rwa [h1] at this
theorem Zep {P:Program} {w:World} {lim:Nat→Nat} {X:Nat→Nat→Option Nat} {aZ bs:List AV} {vs:Nat→Value} (h:∀ i,ZZ P w lim X (ZW aZ) i (ZW aZ i) (vs i)) (hw:VG P aZ bs) :
  ∃ X':Nat→Nat→Option Nat,(∀ i k,X' i k=X i k∨X' i k=Xe)∧(∀ i,(ZW bs i).isB=Xb→X' i 0=X i 0)∧(∀ i,ZZ P w lim X' (ZW bs) i (ZW bs i) (vs i))∧∀ i,aZ.length≤i→X' i=X i:=by
 have key:∀ i,∃ r:Nat→Option Nat,(aZ.length≤i→r=X i)∧(∀ k,r k=X i k∨r k=Xe)∧((ZW bs i).isB=Xb→r 0=X i 0)∧((∀ g ds,ZW bs i≠.clo g ds)→(∀ j q,ZW bs i≠.mref j q)→∀ X':Nat→Nat→Option Nat,X' i=r→ZZ P w lim X' (ZW bs) i (ZW bs i) (vs i))∧
   ∀ k e xs e' xs',Zr (ZW aZ i) k=Xa (e,xs)→Zr (ZW bs i) k=Xa (e',xs')→e'=e∧xs'=xs∧r k=X i k:=by
  intro i
  by_cases hli:aZ.length≤i
  ·have hdb:ZW bs i = .dead:=by
    have:bs[i]? = Xe:=Ux (by rw [← hw.1];exact hli)
    simp [ZW,this]
   exact ⟨X i,fun _=>rfl,fun _=>.inl rfl,fun _=>rfl,fun _ _ X' _=>by rw [hdb];trivial,fun k e xs e' xs' _ hy=>by (rw [hdb] at hy;cases hy)⟩
  rcases Zag hw i with h1 | ⟨g,ds,_,h1,_⟩ | ⟨_,_,_,h1,_⟩
  ·obtain ⟨r,g1,g2,g4,g3⟩:=ZgH (h i) h1
   refine ⟨r,fun h=>(hli h).elim,g1,g2,fun _ _ X' hX=>g3 X' _ _ hX,fun k e xs e' xs' hx hy=>?_⟩
   obtain ⟨h2,h3⟩:=Zce h1 hx hy
   exact ⟨h2,h3,g4 k ⟨_,hx⟩ ⟨_,hy⟩⟩
  ·exact ⟨fun _=>Xe,fun h=>(hli h).elim,fun _=>.inr rfl,fun hb=>by (rw [h1] at hb;cases hb),fun hn _=>(hn g ds h1).elim,fun k e xs e' xs' _ hy=>by (rw [h1] at hy;cases hy)⟩
  ·exact ⟨fun _=>Xe,fun h=>(hli h).elim,fun _=>.inr rfl,fun hb=>by (rw [h1] at hb;cases hb),fun _ hn=>(hn _ _ h1).elim,fun k e xs e' xs' _ hy=>by (rw [h1] at hy;cases hy)⟩
 obtain ⟨X',hX⟩:=Tu key
 refine ⟨X',fun i=>(hX i).2.1,fun i=>(hX i).2.2.1,fun i=>?_,fun i=>(hX i).1⟩
 rcases Zag hw i with h1 | ⟨g',ds',h0,h1,h2⟩ | ⟨j,q,h0,h1,p,h2⟩
 ·exact (hX i).2.2.2.1 (fun g ds e=>(Wq h1).2.2.1 g ds e) (fun j q e=>(Wq h1).2.1 j q e) X' rfl
 ·have hi:=h i
  rw [h0] at hi
  rw [h1]
  obtain ⟨bs',m1,m2,m3⟩:=hi
  refine ⟨bs',m1,m2,fun k d b hd hb=>?_⟩
  have hB:=h2 d (Xj hd)
  exact ⟨((hX d).2.2.1 hB).trans (m3 k d b hd hb).1,hB⟩
 ·have hi:=h i
  rw [h0] at hi
  rw [h1]
  obtain ⟨e,xs,m1,m2⟩:=hi
  obtain ⟨e',xs'⟩:=p
  obtain ⟨n1,n2,n3⟩:=(hX j).2.2.2.2 q e xs e' xs' m1 h2
  subst n1
  subst n2
  exact ⟨e',xs',h2,by rw [n3];exact m2⟩
theorem Zg4 {X X':Nat→Nat→Option Nat} (h:Zmf X) (hX:∀ i k,X' i k=X i k∨X' i k=Xe):Zmf X':=by
 intro d k d' k' b h1 h2
 rcases hX d k with e1 | e1
 ·rcases hX d' k' with e2 | e2
  ·exact h d k d' k' b (e1.symm.trans h1) (e2.symm.trans h2)
  ·rw [e2] at h2;cases h2
 ·rw [e1] at h1;cases h1
theorem ZcZ {P:Program} {aZ bs:List AV} (h:VG P aZ bs) {i k:Nat} {e:TypeId} {xs:List (List AV)} (hy:Z5 (ZW bs i) k=Xa (e,xs)) (hd:Zg P e=Xb):Z5 (ZW aZ i) k=Xa (e,xs):=by
 rcases Zag h i with h1 | ⟨g,ds,_,h1,_⟩ | ⟨_,_,_,h1,_⟩
 ·exact ZeH h1 hy hd
 ·rw [h1] at hy;cases k<;>cases hy
 ·rw [h1] at hy;cases k<;>cases hy
theorem Zg2 {aZ:List AV} {x:AV} {i:Nat} (h:i < aZ.length):ZW (aZ++[x]) i=ZW aZ i:=by
 simp only [ZW];rw [XE h]
theorem ZfS {aZ:List AV} {x:AV} : ZW (aZ++[x]) aZ.length=x:=by simp [ZW]
theorem ZhU {P:Program} {res res':AV} {outs outs':List AV} (ho:VG P (outs++[res]) (outs'++[res'])) (h:WP P outs):WP P outs':=by
 have hll:outs.length=outs'.length:=by have:=ho.1;simpa using this
 intro i k e xs hi
 cases hd:Zg P e with
 | false => rfl
 | true =>
  have hlt:i < outs'.length:=by
   rcases XD i outs'.length with hlt | hge
   ·exact hlt
   ·have:outs'[i]? = Xe:=Ux hge
    simp only [ZW,this,Option.getD_none] at hi
    cases k<;>cases hi
  rw [← Zg2 (x:=res') hlt] at hi
  have h1:=ZcZ ho hi hd
  rw [Zg2 (by omega)] at h1
  rw [h i k e xs h1] at hd
  exact hd.symm
theorem J0.stronger {P:Program} {f:FuncId} {aZ bs:List AV} {res:AV} {outs:List AV} (h:J0 P f bs res outs) (ha:VG P aZ bs):J0 P f aZ res outs:=by
 refine ⟨h.1,by rw [ha.1];exact h.2.1,fun w lim X cargs hcl hrel hdist hsize hfar=>?_⟩
 obtain ⟨X2,g1,g3,g2,g4⟩:=Zep hrel ha
 have hX2:∀ i k b,X2 i k=Xa b→X i k=Xa b:=by
  intro i k b hb
  rcases g1 i k with e | e
  ·rw [← e];exact hb
  ·rw [e] at hb;cases hb
 refine (h.2.2 w lim X2 cargs (by have:=Zhk ha;have:=ha.1;omega) g2 (Zg4 hdist g1) (fun i k b hb=>hsize i k b (hX2 i k b hb)) fun i hi k=>by rw [g4 i (by rw [ha.1];exact hi)];exact hfar i (by rw [ha.1];exact hi) k).mono ?_
 rintro e w' ⟨v,lim',X',he,hst,hol,hr,hd,hin,hgh,hnl,hnr⟩
 refine ⟨v,lim',X',he,hst.wider fun b ⟨i,k,hb⟩=>⟨i,k,hX2 i k b hb⟩,by rw [hol,ha.1],fun i=>by (rw [ha.1];exact hr i),hd,fun i k b hb=>?_,fun i hi=>?_,hnl,by rw [ha.1];exact hnr⟩
 ·obtain ⟨m1,m2⟩:=hin i k b hb
  exact ⟨m1,m2.imp (fun ⟨i,k,h⟩=>⟨i,k,hX2 i k b h⟩) id⟩
 ·obtain ⟨m1,m2⟩:=hgh i hi
  exact ⟨ZfJ ha m1,by rw [m2,g3 i (Za1 m1)]⟩
end Go.AM
