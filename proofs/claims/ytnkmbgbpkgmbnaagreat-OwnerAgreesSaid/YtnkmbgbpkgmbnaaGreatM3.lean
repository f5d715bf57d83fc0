import Derived.Test.YtnkmbgbpkgmbnaaGreatM2
import Derived.Orders
import Derived.LoopN
import Derived.Scope
import Derived.Laws.Cover3
import Derived.Laws.StructEq
open Option renaming some→Xa,none→Xe,bind_some→Xj,map_some→XA,map_eq_some_iff→U5
open Bool renaming false→Xb,true→Xc,and_eq_true→Xk,not_eq_true'→XJ,false_eq_true→XQ,or_eq_true→XX
open Option.some renaming injEq→Xf
open List renaming length_map→Xi,getElem?_eq_getElem→Xm,map_cons→Xn,mem_of_getElem?→Xo,getElem?_map→Xp,mem_append→Xq,mem_cons→Xr,mem_map→Xs,replicate→Xv,getElem?_eq_some_iff→Xx,append_assoc→XB,length_append→XD,all_eq_true→XE,mem_singleton→XF,getElem?_append_right→XG,getElem?_append_left→XH,range→XK,getElem?_cons_zero→XM,length_cons→XO,map_nil→X5,mem_iff_getElem?→X6,cons_append→X8,nil_append→X9,take_of_length_le→Uc,eq_nil_of_length_eq_zero→Uh,length_nil→Ui,getElem?_eq_none→Ur,map_append→Us,any_eq_true→Ut,mem_filter→Uu,getElem?_cons_succ→Uv,map_map→Uw,mem_cons_of_mem→UD,append_nil→UG,take_append_drop→UH,getElem?_set_ne→UI,mem_or_eq_of_mem_set→UR,contains_iff_mem→US,all_cons→UV,mem_cons_self→UX,nodup_cons→U1,drop_zero→U6,countP_cons→Tf,foldl_cons→Tm,singleton_append→Tt,length_eq_one_iff→TA,length_set→TD
open Go.IntKind renaming wrap→Xl
open Nat renaming le_refl→Xt,lt_or_ge→XS,zero_add→XW,zero_le→X7,lt_succ_self→Ul,add_assoc→Uy,add_zero→UN,lt_irrefl→UT,lt_trichotomy→Th,mod_two_eq_zero_or_one→TZ
open Prod.mk renaming injEq→Xw
open Array renaming getD→Ux,getElem?_eq_getElem→Uz,getElem?_eq_some_iff→UF,toArray_toList→U4,getElem?_toList→Tu,length_toList→TR,size_setIfInBounds→T4
open Classical renaming axiomOfChoice→TE
set_option linter.unusedVariables false
set_option linter.unusedSimpArgs false
set_option linter.defProp false
namespace Go.AM
noncomputable section
structure Stp where
 F:List Nat
 ups:List (Nat×AV)
def Zsp (T:Odr) (P:Program) (nt:Nat) (ops:Array Oper) (B:Nat→Prop) (i:Nat) (b:Nat→AV) (s:Stp):Prop:=
 (∀ u∈s.ups,u.1∈s.F)∧(∀ u∈s.ups,B u.1→ZdD u.2)∧(∀ u∈s.ups,∀ d k,T.nr d u.1=Xc→¬ Jz u.2 d k)∧(∀ u∈s.ups,∀ j,T.kp u.1 j=Xc→Js u.2 j=Js (b u.1) j)∧
 ∀ (c:Ctx),c.P=P→c.nt=nt→∀ (a:Nat→AV) (f:Array Value) (w:World) (lim:Nat→Nat) (X:Nat→Nat→Option Nat),
  (∀ d∈s.F,a d=b d)→(∀ d,B d→ZdD (a d))→T.rel b a→Sim c a f w lim X→∀ (Q:Exit→Act→World→Prop) (K:Act→World→Prop),
   (∀ tm' w' e X',Sim c (JV a s.ups) tm' w' e X'→K ⟨tm',[]⟩ w')→wpOp P ops Q i K ⟨f,[]⟩ w
def Zgd (T:Odr) (P:Program) (nt:Nat) (ops:Array Oper) (B:Nat→Prop):Nat→(Nat→AV)→List Stp→Prop
 | _, _, [] => True
 | i, σ, s :: ss => Zsp T P nt ops B i σ s ∧ Zgd T P nt ops B (i + 1) (JV σ s.ups) ss
def ZeU {B:Nat→Prop} : ∀ (us:List (Nat×AV)) (σ:Nat→AV),(∀ u∈us,B u.1→ZdD u.2)→(∀ d,B d→ZdD (σ d))→∀ d,B d→ZdD (JV σ us d)
 | [], _, _, h, d, a => h d a
 | (e, x) :: us, σ, hu, h, d, a => by
  refine ZeU us (upd σ e x) (fun u b=>hu u (by simp [b])) (fun d a=>?_) d a;by_cases he:d=e
  ·subst he;rw [Jl];exact hu (d,x) (by simp) a
  ·rw [Zp _ _ he];exact h d a
def Zgf (σ:Nat→AV):List Stp→(Nat→AV)
 | [] => σ
 | s :: ss => Zgf (JV σ s.ups) ss
section
variable {T:Odr} {P:Program} {nt:Nat} {ops:Array Oper} {B:Nat→Prop} {Q:Exit→Act→World→Prop} {c:Ctx}
def ZdO (g:c.P=P) (j:c.nt=nt):∀ (e:List Stp) (i:Nat) (σ:Nat→AV) (b:Array Value) (w:World) (lim:Nat→Nat) (X:Nat→Nat→Option Nat),
  Zgd .text P nt ops B i σ e→(∀ d,B d→ZdD (σ d))→Sim c σ b w lim X→(∀ tm' w' a X',Sim c (Zgf σ e) tm' w' a X'→Q .normal ⟨tm',[]⟩ w')→wpOps P ops Q (List.range' i e.length) ⟨b,[]⟩ w
 | [], i, σ, b, w, lim, X, _, _, hs, hk => by
  show Q .normal ⟨b,[]⟩ w;exact hk b w lim X hs
 | s :: e, i, σ, b, w, lim, X, h, hb, hs, hk => by
  rw [XO,List.range'_succ,wpOps_cons];exact h.1.2.2.2.2 c g j σ b w lim X (fun _ _=>rfl) hb rfl hs Q _ fun tm' w' a X' f=>ZdO g j e (i+1) _ tm' w' a X' h.2 (ZeU _ _ h.1.2.1 hb) f hk
def Za5:List (Nat×AV)→Nat→Option AV
 | [], _ => Xe
 | (e, x) :: us, d => match Za5 us d with | some y => Xa y | none => if d = e then Xa x else Xe
def JK:∀ (us:List (Nat×AV)) (σ:Nat→AV) (d:Nat),JV σ us d=(Za5 us d).getD (σ d)
 | [], σ, d => rfl
 | (e, x) :: us, σ, d => by
  simp only [JV,Za5,JK us]
  cases Za5 us d with
  | some y => rfl
  | none =>
   by_cases h:d=e
   ·subst h;simp [upd]
   ·simp [upd,h]
def Y8:∀ (us:List (Nat×AV)) (d:Nat),d∉us.map (·.1)→Za5 us d=Xe
 | [], d, _ => rfl
 | (e, x) :: us, d, h => by
  simp only [Xn,Xr,not_or] at h;simp only [Za5,Y8 us d h.2,P3 h.1]
def VY:∀ (us:List (Nat×AV)) (d:Nat),d∈us.map (·.1)→∃ x,Za5 us d=Xa x
 | [], d, h => by simp at h
 | (e, x) :: us, d, h => by
  simp only [Za5]
  cases hl:Za5 us d with
  | some y => exact ⟨y, rfl⟩
  | none =>
   simp only [Xn,Xr] at h;rcases h with h | h
   ·subst h;exact ⟨x,by simp⟩
   ·obtain ⟨y,a⟩:=VY us d h;rw [hl] at a;cases a
def comp (S:Nat→Bool):Nat→(Nat→AV)→List Stp→(Nat→AV)
 | _, σ, [] => σ
 | i, σ, s :: ss => comp S (i + 1) (if S i = Xc then JV σ s.ups else σ) ss
def Zih (S:Nat→Bool):∀ (a:List Stp) (i:Nat) (σ:Nat→AV),(∀ j,i≤j→j < i+a.length→S j=Xc)→comp S i σ a=Zgf σ a
 | [], _, _, _ => rfl
 | s :: a, i, σ, h => by
  simp only [comp,Zgf,h i (Xt _) (by simp),if_true];exact Zih S a (i+1) _ fun j b d=>h j (by omega) (by simp only [XO];omega)
def ZbR (S:Nat→Bool):∀ (a:List Stp) (i:Nat) (σ:Nat→AV),(∀ j,i≤j→j < i+a.length→S j=Xb)→comp S i σ a=σ
 | [], _, _, _ => rfl
 | s :: a, i, σ, h => by
  simp only [comp,h i (Xt _) (by simp),XQ,if_false];exact ZbR S a (i+1) _ fun j b d=>h j (by omega) (by simp only [XO];omega)
def V6 {d:Nat} (S T:Nat→Bool):∀ (a:List Stp) (i:Nat) (σ τ:Nat→AV),σ d=τ d→(∀ (j:Nat) (s:Stp),a[j]? = Xa s→d∈s.ups.map (·.1)→S (i+j)=T (i+j))→comp S i σ a d=comp T i τ a d
 | [], _, _, _, h, _ => h
 | s :: a, i, σ, τ, h, hS => by
  simp only [comp]
  refine V6 S T a (i+1) _ _ ?_ fun j k e b=>by
   have:=hS (j+1) k (by simpa using e) b;rw [show i+1+j=i+(j+1) by omega];exact this
  by_cases b:d∈s.ups.map (·.1)
  ·have f:=hS 0 s rfl b;rw [UN] at f;rw [f];split
   ·rw [JK,JK,h]
   ·exact h
  ·have g:=Y8 s.ups d b
   split<;>split<;>first
    | (rw [JK, JK, g]; exact h)
    | (rw [JK, g]; exact h)
    | exact h
def Zct:∀ (a:List Stp) (i:Nat) (σ:Nat→AV) (m:Nat),comp (fun j=>decide (j < i+m)) i σ a=Zgf σ (a.take m)
 | [], i, σ, m => by simp [comp, Zgf]
 | s :: a, i, σ, 0 => by
  rw [List.take_zero];exact ZbR _ (s::a) i σ fun j b _=>by simp;omega
 | s :: a, i, σ, m + 1 => by
  simp only [comp,List.take_succ_cons,Zgf,P5];rw [P4 (by omega),← Zct a (i+1)];congr 1;funext j;rw [show i+1+m=i+(m+1) by omega]
def Zk9 (S:Nat→Bool):∀ (b:List Stp) (i:Nat) (σ:Nat→AV),(∀ s∈b,∀ u∈s.ups,B u.1→ZdD u.2)→(∀ d,B d→ZdD (σ d))→∀ d,B d→ZdD (comp S i σ b d)
 | [], _, _, _, h, d, a => h d a
 | s :: b, i, σ, hu, h, d, a => by
  simp only [comp];refine Zk9 S b (i+1) _ (fun f e=>hu f (by simp [e])) (fun d a=>?_) d a;split
  ·exact ZeU _ _ (hu s (by simp)) h d a
  ·exact h d a
def ZgP:∀ (a:List Stp) (i:Nat) (σ:Nat→AV),Zgd T P nt ops B i σ a→∀ s∈a,∀ u∈s.ups,B u.1→ZdD u.2
 | [], _, _, _, s, hs => by simp at hs
 | s0 :: a, i, σ, h, s, hs => by
  rcases Xr.1 hs with rfl | hs
  ·exact h.1.2.1
  ·exact ZgP a (i+1) _ h.2 s hs
def Zmy:∀ (us:List (Nat×AV)) (σ:Nat→AV),(∀ u∈us,∀ d k,T.nr d u.1=Xc→¬ Jz u.2 d k)→(∀ d i k,T.nr d i=Xc→¬ Jz (σ i) d k)→∀ d i k,T.nr d i=Xc→¬ Jz (JV σ us i) d k
 | [], _, _, h => h
 | (e, x) :: us, σ, hu, h => by
  refine Zmy us (upd σ e x) (fun u b=>hu u (by simp [b])) fun d i k a=>?_;by_cases he:i=e
  ·subst he;rw [Jl];exact hu (i,x) (by simp) d k a
  ·rw [Zp _ _ he];exact h d i k a
def Zl4 (S:Nat→Bool):∀ (a:List Stp) (i:Nat) (σ:Nat→AV),(∀ s∈a,∀ u∈s.ups,∀ d k,T.nr d u.1=Xc→¬ Jz u.2 d k)→(∀ d i k,T.nr d i=Xc→¬ Jz (σ i) d k)→∀ d j k,T.nr d j=Xc→¬ Jz (comp S i σ a j) d k
 | [], _, _, _, h => h
 | s :: a, i, σ, hu, h => by
  simp only [comp];refine Zl4 S a (i+1) _ (fun e b=>hu e (by simp [b])) ?_;split
  ·exact Zmy _ _ (hu s (by simp)) h
  ·exact h
def Zi9:∀ (a:List Stp) (i:Nat) (σ:Nat→AV),Zgd T P nt ops B i σ a→∀ s∈a,∀ u∈s.ups,∀ d k,T.nr d u.1=Xc→¬ Jz u.2 d k
 | [], _, _, _, s, hs => by simp at hs
 | s0 :: a, i, σ, h, s, hs => by
  rcases Xr.1 hs with rfl | hs
  ·exact h.1.2.2.1
  ·exact Zi9 a (i+1) _ h.2 s hs
def ZeB {τ:Nat→AV} : ∀ (us:List (Nat×AV)) (σ:Nat→AV),(∀ u∈us,∀ j,T.kp u.1 j=Xc→Js u.2 j=Js (τ u.1) j)→(∀ d j,T.kp d j=Xc→Js (σ d) j=Js (τ d) j)→∀ d j,T.kp d j=Xc→Js (JV σ us d) j=Js (τ d) j
 | [], _, _, h => h
 | (e, x) :: us, σ, hu, h => by
  refine ZeB us (upd σ e x) (fun u b=>hu u (by simp [b])) fun d j a=>?_;by_cases he:d=e
  ·subst he;rw [Jl];exact hu (d,x) (by simp) j a
  ·rw [Zp _ _ he];exact h d j a
def Zl1 (S:Nat→Bool):∀ (a:List Stp) (i:Nat) (τ σ:Nat→AV),(∀ s∈a,∀ u∈s.ups,∀ j,T.kp u.1 j=Xc→Js u.2 j=Js (τ u.1) j)→(∀ d j,T.kp d j=Xc→Js (σ d) j=Js (τ d) j)→∀ d j,T.kp d j=Xc→Js (comp S i σ a d) j=Js (τ d) j
 | [], _, _, _, _, h => h
 | s :: a, i, τ, σ, hu, h => by
  simp only [comp];refine Zl1 S a (i+1) τ _ (fun e b=>hu e (by simp [b])) ?_;split
  ·exact ZeB _ _ (hu s (by simp)) h
  ·exact h
def ZnP:∀ (a:List Stp) (τ σ:Nat→AV),(∀ s∈a,∀ u∈s.ups,∀ j,T.kp u.1 j=Xc→Js u.2 j=Js (τ u.1) j)→(∀ d j,T.kp d j=Xc→Js (σ d) j=Js (τ d) j)→∀ d j,T.kp d j=Xc→Js (Zgf σ a d) j=Js (τ d) j
 | [], _, _, _, h => h
 | s :: a, τ, σ, hu, h => by
  simp only [Zgf];exact ZnP a τ _ (fun e b=>hu e (by simp [b])) (ZeB _ _ (hu s (by simp)) h)
def Zfj:∀ (a:List Stp) (i:Nat) (σ:Nat→AV),Zgd T P nt ops B i σ a→∀ s∈a,∀ u∈s.ups,∀ j,T.kp u.1 j=Xc→Js u.2 j=Js (σ u.1) j
 | [], _, _, _, s, hs => by simp at hs
 | s0 :: a, i, σ, h, s, hs => by
  rcases Xr.1 hs with rfl | hs
  ·exact h.1.2.2.2.1
  ·intro u d j b;rw [Zfj a (i+1) _ h.2 s hs u d j b];exact ZeB s0.ups σ (τ:=σ) h.1.2.2.2.1 (fun _ _ _=>rfl) u.1 j b
def ZiR:∀ (a:List Stp) (i:Nat) (σ:Nat→AV),Zgd T P nt ops B i σ a→∀ (j:Nat) (s:Stp),a[j]? = Xa s→Zsp T P nt ops B (i+j) (Zgf σ (a.take j)) s
 | [], _, _, _, j, s, h => by simp at h
 | s0 :: a, i, σ, hc, 0, s, h => by
  simp only [XM,Xf] at h;subst h;exact hc.1
 | s0 :: a, i, σ, hc, j + 1, s, h => by
  have:=ZiR a (i+1) _ hc.2 j s (by simpa using h);rw [show i+(j+1)=i+1+j by omega];exact this
def Znc (hc:c.P=P) (hn:c.nt=nt) {N:Nat→Bool} {M:Nat→Option Nat} {K:List (Nat×Nat)} {ss:List Stp} {σ:Nat→AV} (hch:Zgd (.any N M K) P nt ops B 0 σ ss) (hN:∀ d i k,(Odr.any N M K).nr d i=Xc→¬ Jz (σ i) d k) (hpb:∀ d,B d→ZdD (σ d)) (hlen:ss.length=ops.size)
  (hlow:∀ (i:Nat) (o:Oper),ops[i]? = Xa o→∀ e∈o.after,Region.binds .any e=Xc→e.on < i)
  (hind:∀ (i j:Nat) (a b:Stp),ss[i]? = Xa a→ss[j]? = Xa b→j < i→(∃ S:Nat→Prop,(∀ k o,ops[k]? = Xa o→S k→∀ e∈o.after,Region.binds .any e=Xc→S e.on)∧S i∧¬ S j)→
   (∀ d∈b.ups.map (·.1),d∉a.F)∧∀ d∈a.ups.map (·.1),d∉b.F) (hfin:∀ tm' w' lim' X',Sim c (Zgf σ ss) tm' w' lim' X'→Q .normal ⟨tm',[]⟩ w') :
  ∀ (fuel:Nat) (listed:Array Bool) (tm:Array Value) (w:World) (lim:Nat→Nat) (X:Nat→Nat→Option Nat),listed.size=ops.size→
   (∀ k o,ops[k]? = Xa o→listed.getD k Xb=Xc→∀ e∈o.after,Region.binds .any e=Xc→listed.getD e.on Xb=Xc)→
   ((XK ops.size).countP (fun i=>!listed.getD i Xb)≤fuel)→
   Sim c (comp (fun i=>listed.getD i Xb) 0 σ ss) tm w lim X→wpAny P .any ops Q fuel listed ⟨tm,[]⟩ w:=by
 -- where nothing is ready, all is done
 have hdone:∀ (listed:Array Bool),listed.size=ops.size→Region.ready .any ops listed = []→∀ j,j < ops.size→listed.getD j Xb=Xc:=by
  intro listed hsz hr j
  induction j using Nat.strongRecOn with
  | _ j ih =>
   intro hj
   cases hl:listed.getD j Xb with
   | true => rfl
   | false =>
    have:j∈Region.ready .any ops listed:=by
     rw [mem_ready];refine ⟨?_,ops[j],Uz hj,fun e he hb=>?_⟩
     ·simp only [Ux,hsz,hj,dite_true] at hl ⊢;exact hl
     ·have hlt:=hlow j _ (Uz hj) e he hb;exact ih e.on hlt (by omega)
    rw [hr] at this
    cases this
 have hend:∀ (listed:Array Bool) (tm:Array Value) (w:World) (lim:Nat→Nat) (X:Nat→Nat→Option Nat),listed.size=ops.size→Region.ready .any ops listed = []→
   Sim c (comp (fun i=>listed.getD i Xb) 0 σ ss) tm w lim X→Q .normal ⟨tm,[]⟩ w:=by
  intro listed tm w lim X hsz hr hs;rw [Zih _ ss 0 σ fun j _ h2=>hdone listed hsz hr j (by omega)] at hs;exact hfin tm w lim X hs
 intro fuel
 induction fuel with
 | zero =>
  intro listed tm w lim X hsz hcl hcnt hs
  have hall:∀ j,j < ops.size→listed.getD j Xb=Xc:=by
   intro j hj;have h0:(XK ops.size).countP (fun i=>!listed.getD i Xb)=0:=by omega
   have:=(List.countP_eq_zero.1 h0) j (by simpa using hj);simpa using this
  have hr:Region.ready .any ops listed = []:=by
   refine List.eq_nil_iff_forall_not_mem.2 fun j hj=>?_;obtain ⟨h1,o,h2,_⟩:=mem_ready.1 hj;have hlt:=(UF.1 h2).1;have:=hall j hlt;simp only [Ux,hsz,hlt,dite_true] at h1 this;rw [h1] at this
   cases this
  exact ⟨hr,hend listed tm w lim X hsz hr hs⟩
 | succ fuel ih =>
  intro listed tm w lim X hsz hcl hcnt hs;refine ⟨fun hr=>hend listed tm w lim X hsz hr hs,fun i hi=>?_⟩;obtain ⟨h1,o,h2,h3⟩:=mem_ready.1 hi;have hlt:=(UF.1 h2).1
  have hun:listed.getD i Xb=Xb:=by
   simp only [Ux,hsz,hlt,dite_true] at h1 ⊢;exact h1
  obtain ⟨s,hsi⟩:∃ s,ss[i]? = Xa s:=⟨_,Xm (by omega)⟩;have hst:=ZiR ss 0 σ hch i s hsi;rw [XW] at hst
  have hset:∀ j,(listed.setIfInBounds i Xc).getD j Xb=if j=i then Xc else listed.getD j Xb:=by
   intro j;by_cases hji:j=i
   ·subst hji;simp [Ux,hsz,hlt]
   ·rw [P3 hji,getD_set_ne Xb (Ne.symm hji)]
  -- i is not before what is listed
  have hnot:∀ j,listed.getD j Xb=Xc→∃ S:Nat→Prop,(∀ k o,ops[k]? = Xa o→S k→∀ e∈o.after,Region.binds .any e=Xc→S e.on)∧S j∧¬ S i:=
   fun j hj=>⟨fun k=>listed.getD k Xb=Xc,hcl,hj,by simp [hun]⟩
  -- what is not listed is not before i
  have hnot':∀ j,j≠i→listed.getD j Xb=Xb→∃ S:Nat→Prop,(∀ k o,ops[k]? = Xa o→S k→∀ e∈o.after,Region.binds .any e=Xc→S e.on)∧S i∧¬ S j:=by
   intro j hji hj;refine ⟨fun k=>k=i∨listed.getD k Xb=Xc,fun k o' hk hS e he hb=>?_,.inl rfl,by simp [hji,hj]⟩;rcases hS with rfl | hS
   ·rw [h2] at hk
    cases hk
    exact .inr (h3 e he hb)
   ·exact .inr (hcl k o' hk hS e he hb)
  have hpre:∀ d∈s.F,comp (fun i=>listed.getD i Xb) 0 σ ss d=Zgf σ (ss.take i) d:=by
   intro d hd;rw [← Zct ss 0 σ i];refine V6 _ _ ss 0 σ σ rfl fun j s' hj hdj=>?_;simp only [XW];rcases Th j i with hlt' | rfl | hgt
   ·simp only [hlt',decide_true]
    cases hl:listed.getD j Xb with
    | true => rfl
    | false => exact (((hind i j s s' hsi hj hlt' (hnot' j (by omega) hl)).1 d hdj) hd).elim
   ·simp [hun]
   ·have hf:decide (j < i)=Xb:=by simp;omega
    rw [hf]
    cases hl:listed.getD j Xb with
    | false => rfl
    | true => exact (((hind j i s' s hj hsi hgt (hnot j hl)).2 d hdj) hd).elim
  refine hst.2.2.2.2 c hc hn _ tm w lim X hpre (Zk9 _ ss 0 σ (ZgP ss 0 σ hch) hpb) ⟨Zl4 _ ss 0 σ (Zi9 ss 0 σ hch) hN,fun d j hd=>(Zl1 _ ss 0 σ σ (Zfj ss 0 σ hch) (fun _ _ _=>rfl) d j hd).trans (ZnP (ss.take i) σ σ (fun s' hs'=>Zfj ss 0 σ hch s' (List.mem_of_mem_take hs')) (fun _ _ _=>rfl) d j hd).symm⟩ hs Q _ fun tm' w' lim' X' hs'=>?_;refine ih (listed.setIfInBounds i Xc) tm' w' lim' X' (by simpa using hsz) ?_ ?_ ?_
  ·intro k o' hk hl e he hb;rw [hset] at hl ⊢;by_cases hei:e.on=i
   ·simp [hei]
   ·rw [P3 hei];by_cases hki:k=i
    ·subst hki;rw [h2] at hk
     cases hk
     exact h3 e he hb
    ·rw [P3 hki] at hl;exact hcl k o' hk hl e he hb
  ·have hlt2:(XK ops.size).countP (fun j=>!(listed.setIfInBounds i Xc).getD j Xb) < (XK ops.size).countP (fun j=>!listed.getD j Xb):=by
    have key:∀ (l:List Nat),i∈l→l.countP (fun j=>!(listed.setIfInBounds i Xc).getD j Xb) < l.countP (fun j=>!listed.getD j Xb):=by
     have hle:∀ (l:List Nat),l.countP (fun j=>!(listed.setIfInBounds i Xc).getD j Xb)≤l.countP (fun j=>!listed.getD j Xb):=by
      intro l;refine List.countP_mono_left fun j _ hj=>?_;rw [hset] at hj;split at hj
      ·simp at hj
      ·exact hj
     intro l
     induction l with
     | nil => intro h; cases h
     | cons x l ihl =>
      intro h;rw [Tf,Tf];by_cases hx:x=i
      ·subst hx;have h1:(listed.setIfInBounds x Xc).getD x Xb=Xc:=by rw [hset,P4 rfl]
       have:=hle l;rw [h1,hun];simp only [Bool.not_true,Bool.not_false,XQ,if_false,if_true];omega
      ·have:=ihl (by rcases Xr.1 h with h | h;exact (hx h.symm).elim;exact h);rw [hset x,P3 hx];omega
    exact key _ (by simpa using hlt)
   omega
  ·have he:comp (fun j=>(listed.setIfInBounds i Xc).getD j Xb) 0 σ ss=JV (comp (fun i=>listed.getD i Xb) 0 σ ss) s.ups:=by
    funext d;rw [JK];by_cases hd:d∈s.ups.map (·.1)
    ·have hdF:d∈s.F:=by
      obtain ⟨u,hu,rfl⟩:=Xs.1 hd;exact hst.1 u hu
     -- nothing behind i that is listed writes d
     rw [V6 (d:=d) _ (fun j=>decide (j < i+1)) ss 0 σ σ rfl fun j s' hj hdj=>?_]
     ·have:=Zct ss 0 σ (i+1);rw [XW] at this;rw [this,List.take_add_one,hsi]
      have happ:∀ (l:List Stp) (τ:Nat→AV),Zgf τ (l++[s])=JV (Zgf τ l) s.ups:=by
       intro l
       induction l with
       | nil => intro τ; rfl
       | cons x l ihl => intro τ; exact ihl _
      show Zgf σ (ss.take i++[s]) d=_;rw [happ,JK];obtain ⟨x,hx⟩:=VY s.ups d hd;rw [hx];rfl
     ·rw [XW,hset];rcases Th j i with hlt' | rfl | hgt
      ·have:decide (j < i+1)=Xc:=by simp;omega
       rw [this,P3 (by omega)]
       cases hl:listed.getD j Xb with
       | true => rfl
       | false => exact (((hind i j s s' hsi hj hlt' (hnot' j (by omega) hl)).1 d hdj) hdF).elim
      ·simp
      ·have:decide (j < i+1)=Xb:=by simp;omega
       rw [this,P3 (by omega)]
       cases hl:listed.getD j Xb with
       | false => rfl
       | true => exact (((hind j i s' s hj hsi hgt (hnot j hl)).2 d hdj) hdF).elim
    ·rw [Y8 s.ups d hd];refine V6 _ _ ss 0 σ σ rfl fun j s' hj hdj=>?_;rw [XW,hset];by_cases hji:j=i
     ·subst hji;rw [hsi] at hj
      cases hj
      exact (hd hdj).elim
     ·rw [P3 hji]
   rw [he];exact hs'
end
def Zex {ops:Array Oper} {S:Nat→Prop} (z:∀ k o,ops[k]? = Xa o→S k→∀ e∈o.after,Region.binds .any e=Xc→S e.on) (i j:Nat) (p:S i)
  (w:((Region.before ops).getD i 0).testBit j=Xc):S j:=by
 have g:∀ (a:Array Nat),(∀ i j,S i→(a.getD i 0).testBit j=Xc→S j)→∀ (l:List Edge),(∀ e∈l,Region.binds .any e=Xc→S e.on)→∀ (s:Nat),(∀ j,s.testBit j=Xc→S j)→
   ∀ j,(l.foldl (fun s e=>if Region.binds .any e then s||| 2^e.on||| a.getD e.on 0 else s) s).testBit j=Xc→S j:=by
  intro a d l
  induction l with
  | nil => intro _ s u j f; exact u j f
  | cons e l ih =>
   intro q s u j f;rw [Tm] at f;refine ih (fun e' x=>q e' (by simp [x])) _ ?_ j f;intro n b;split at b
   ·rename_i y;have r:=q e (by simp) y;rw [Nat.testBit_or,Nat.testBit_or,Nat.testBit_two_pow,XX,XX,P5] at b;rcases b with (h | h) | h
    ·exact u n h
    ·rw [← h];exact r
    ·exact d e.on n r h
   ·exact u n b
 have m:∀ (l:List Oper) (a:Array Nat),(∀ j,l[j]? = ops[a.size+j]?)→(∀ i j,S i→(a.getD i 0).testBit j=Xc→S j)→
   ∀ i j,S i→((l.foldl (fun a o=>a.push (o.after.foldl (fun s e=>if Region.binds .any e then s||| 2^e.on||| a.getD e.on 0 else s) 0)) a).getD i 0).testBit j=Xc→S j:=by
  intro l
  induction l with
  | nil => intro a _ d i j p f; exact d i j p f
  | cons o l ih =>
   intro a q d i j p f;rw [Tm] at f;refine ih _ (fun j=>?_) ?_ i j p f
   ·have:=q (j+1);simp only [Uv,Array.size_push] at this ⊢;rw [this];congr 1;omega
   ·intro v n t b;have A:ops[a.size]? = Xa o:=by simpa using (q 0).symm
    by_cases h:v < a.size
    ·refine d v n t ?_;simp only [Ux,Array.size_push,h,dite_true] at b ⊢;rw [dif_pos (by omega)] at b;simp only [Array.getInternal_eq_getElem,Array.getElem_push,h,dite_true] at b ⊢;exact b
    ·by_cases h':v=a.size
     ·subst h'
      have:(a.push (o.after.foldl (fun s e=>if Region.binds .any e then s||| 2^e.on||| a.getD e.on 0 else s) 0)).getD a.size 0=o.after.foldl (fun s e=>if Region.binds .any e then s||| 2^e.on||| a.getD e.on 0 else s) 0:=by
       simp [Ux]
      rw [this,← Array.foldl_toList] at b;exact g a d o.after.toList (fun e C w=>z a.size o A t e (by simpa using C) w) 0 (by simp) n b
     ·have:(a.push (o.after.foldl (fun s e=>if Region.binds .any e then s||| 2^e.on||| a.getD e.on 0 else s) 0)).getD v 0=0:=by
       simp only [Ux,Array.size_push];rw [dif_neg (by omega)]
      rw [this] at b;simp at b
 have:=m ops.toList #[] (fun j=>by simp) (fun i j _ h=>by simp at h) i j p;apply this;rw [Array.foldl_toList];exact w
def Tr.get_set:∀ (k:Nat) (t:Tr) (d i:Nat) (x:SV),d < 2^k→i < 2^k→(Tr.set k t d x).get i=if i=d then x else t.get i
 | 0, t, d, i, x, hd, hi => by
  have f:d=0:=by simpa using hd
  have g:i=0:=by simpa using hi
  subst f;subst g;rfl
 | k + 1, .node l r, d, i, x, hd, hi => by
  have a:d / 2 < 2^k:=by rw [Nat.pow_succ] at hd;omega
  have b:i / 2 < 2^k:=by rw [Nat.pow_succ] at hi;omega
  have c:=Tr.get_set k l (d / 2) (i / 2) x a b;have e:=Tr.get_set k r (d / 2) (i / 2) x a b;rcases TZ d with h | h<;>rcases TZ i with h' | h'
  ·simp only [Tr.set,h,Tr.get,h',c];by_cases he:i=d
   ·simp [he]
   ·rw [P3 he,P3 (by omega)]
  ·simp only [Tr.set,h,Tr.get,h'];rw [P3 (by omega)]
  ·simp only [Tr.set,h,Tr.get,h'];rw [P3 (by omega)]
  ·simp only [Tr.set,h,Tr.get,h',e];by_cases he:i=d
   ·simp [he]
   ·rw [P3 he,P3 (by omega)]
 | k + 1, .leaf y, d, i, x, hd, hi => by
  have a:d / 2 < 2^k:=by rw [Nat.pow_succ] at hd;omega
  have b:i / 2 < 2^k:=by rw [Nat.pow_succ] at hi;omega
  have ih:=Tr.get_set k (.leaf y) (d / 2) (i / 2) x a b;rcases TZ d with h | h<;>rcases TZ i with h' | h'
  ·simp only [Tr.set,h,Tr.get,h',ih];by_cases he:i=d
   ·simp [he]
   ·rw [P3 he,P3 (by omega)]
  ·simp only [Tr.set,h,Tr.get,h'];rw [P3 (by omega)]
  ·simp only [Tr.set,h,Tr.get,h'];rw [P3 (by omega)]
  ·simp only [Tr.set,h,Tr.get,h',ih];by_cases he:i=d
   ·simp [he]
   ·rw [P3 he,P3 (by omega)]
def Jk (E:Env) (s:Tr) (ρ:Nat→V):Nat→AV:=fun d=>(gE E s d).den ρ
def Vy (E:Env) (s:Tr) (n:Nat):Prop:=∀ d,(gE E s d).bd n
section
variable {P:Program} {E:Env} {R:AV→List AV→Prop} {A:Nat→List V→Prop}
def Yf {d:Nat} (h:d < E.nt):d < E.top:=Nat.lt_of_lt_of_le h (Nat.le_add_right _ _)
def Zqy (a:E.top≤1024) {d:Nat} (b:d < E.top) (s:Tr) (x:SV) (i:Nat):gE E (s.set depth d x) i=if i=d then x else gE E s i:=by
 unfold gE;by_cases hi:i < E.top
 ·rw [P4 hi,P4 hi];exact Tr.get_set 10 s d i x (by omega) (by omega)
 ·rw [P3 hi,P3 hi,P3 (by omega)]
def YG (a:E.top≤1024) {d:Nat} (b:d < E.top) (s:Tr) (x:SV) (ρ:Nat→V):Jk E (s.set depth d x) ρ=upd (Jk E s ρ) d (x.den ρ):=by
 funext i;simp only [Jk,Zqy a b,upd];split<;>rfl
def J7 (a:E.top≤1024) {d n:Nat} (b:d < E.top) {s:Tr} {x:SV} (c:Vy E s n) (e:x.bd n):Vy E (s.set depth d x) n:=by
 intro i;rw [Zqy a b];split
 ·exact e
 ·exact c i
def VO (E:Env) (us:Ups):Prop:=us.all (fun u=>decide (u.1 < E.top))=Xc
def Ya (a:E.top≤1024) (ρ:Nat→V):∀ (us:Ups) (s:Tr),VO E us→Jk E (JO us s) ρ=JV (Jk E s ρ) (us.map fun u=>(u.1,u.2.den ρ))
 | [], _, _ => rfl
 | (d, x) :: us, s, h => by
  simp only [VO,UV,Xk,P5] at h;simp only [JO,Xn,JV];rw [Ya a ρ us _ h.2,YG a h.1]
def JX (a:E.top≤1024) {n:Nat} : ∀ (us:Ups) (s:Tr),VO E us→Vy E s n→(∀ u∈us,u.2.bd n)→Vy E (JO us s) n
 | [], _, _, hs, _ => hs
 | (d, x) :: us, s, h, hs, hu => by
  simp only [VO,UV,Xk,P5] at h;exact JX a us _ h.2 (J7 a h.1 hs (hu (d,x) (by simp))) fun u b=>hu u (by simp [b])
def ZgE {s:Tr} {n a:Nat} (h:Vy E s n) (b:n≤a):Vy E s a:=fun d=>SV.bd_mono b _ (h d)
def ZdU {s:Tr} {n:Nat} {ρ a:Nat→V} (h:Vy E s n) (b:∀ m,m < n→a m=ρ m):Jk E s a=Jk E s ρ:=by
 funext d;exact SV.den_congr b _ (h d)
def Zef {x:SV} (ρ:Nat→V) (h:∀ cs,x≠.box cs):∀ cs,x.den ρ≠.box cs:=by
 intro cs a
 cases x with
 | box ds => exact h ds rfl
 | c y => cases y <;> cases a
 | _ => cases a
def Zfv {x:SV} (ρ:Nat→V) (h:∀ cs,x≠.gbox cs):(x.den ρ).isG=Xb:=by
 cases x with
 | gbox cs => exact (h cs rfl).elim
 | c y => cases y <;> rfl
 | _ => rfl
def Zkh {a b:AV} (e:a.isG=Xb) (f:b.isG=Xb) (d:We a) (c:(∀ cs,b≠.box cs)∨a = .dead):Wx a b=Xc:=by
 unfold Wx;split
 ·cases e
 ·cases f
 ·rename_i cs _;exact (d.1 cs rfl).elim
 ·exact (d.2.1 _ _ rfl).elim
 ·rfl
 ·rename_i h g;rcases c with c | c
  ·exact (c _ rfl).elim
  ·exact (g c).elim
 ·rfl
def Zk8 {x:SV} (ρ:Nat→V) (h:∀ cs,x≠.box cs) (d:∀ e l,x≠.own Xc e l) (f:∀ cs,x≠.gbox cs):We (x.den ρ):=by
 refine ⟨Zef ρ h,fun e xs a=>?_,fun cs a=>by have:=Zfv ρ f;rw [a] at this;cases this⟩
 cases x with
 | own b e' l =>
  cases b with
  | true => exact d _ _ rfl
  | false => cases a
 | c y => cases y <;> cases a
 | _ => cases a
def YA {a b:SV} (ρ:Nat→V) (h:Zbh a b=Xc):Wx (a.den ρ) (b.den ρ)=Xc:=by
 have d:∀ cs,a≠.box cs:=by
  rintro cs rfl
  cases b<;>cases h
 have f:∀ e l,a≠.own Xc e l:=by
  rintro e l rfl
  cases b<;>cases h
 have c:∀ cs,a≠.gbox cs:=by
  rintro cs rfl
  cases b<;>cases h
 have g:∀ cs,b≠.gbox cs:=by
  rintro cs rfl
  cases a with
  | own x e l => cases x <;> cases h
  | _ => cases h
 refine Zkh (Zfv ρ c) (Zfv ρ g) (Zk8 ρ d f c) ?_;by_cases hd:a = .dead
 ·subst hd;exact .inr rfl
 ·refine .inl (Zef ρ ?_);rintro cs rfl
  cases a with
  | dead => exact hd rfl
  | own x e l => cases x <;> cases h
  | _ => cases h
def Zkk {c:Ctx} {σ:Nat→AV} {d:Array Value} {w:World} {lim:Nat→Nat} {X:Nat→Nat→Option Nat} (h:Sim c σ d w lim X) {ops:Array Oper} {j a:Nat} {b:Bool}
  (m:(ops[j]?).bind (·.dst)=Xa a) (g:σ a = .val (.bool b)):yielded ops d j=Xa b:=by
 have e:a < d.size:=by
  rcases XS a c.nt with h1 | h1
  ·rw [h.size];exact h1
  ·have:=h.out a h1;rw [g] at this;rcases this with f | f<;>cases f
 have k:=h.rel a;rw [g] at k;have l:d.getD a undef = .bool b:=VQ k
 have f:d[a]? = Xa (.bool b):=by
  simp only [Ux,e,dite_true] at l;rw [Uz e];exact congrArg Xa l
 unfold yielded;simp only [m,Xj,f]
def ZgQ {c:Ctx} {σ:Nat→AV} {b:Array Value} {w:World} {lim:Nat→Nat} {X:Nat→Nat→Option Nat} (h:Sim c σ b w lim X) {ops:Array Oper} {j a:Nat}
  (f:(ops[j]?).bind (·.dst)=Xa a) (g:σ a = .tuple []):yielded ops b j=Xe:=by
 have d:=h.rel a;rw [g] at d;obtain ⟨us,e,k,_⟩:=d;have:us = []:=Uh k;subst this;unfold yielded;simp only [f,Xj];by_cases hlt:a < b.size
 ·simp only [Ux,hlt,dite_true] at e
  have l:b[a]? = Xa (.tuple #[]):=by
   rw [Uz hlt];exact congrArg Xa e
  simp only [l]
 ·simp only [Array.getElem?_eq_none (Nat.le_of_not_lt hlt)]
def Sim.putUndef {c:Ctx} {σ:Nat→AV} {a:Array Value} {w:World} {lim:Nat→Nat} {X:Nat→Nat→Option Nat} (h:Sim c σ a w lim X) {d:Nat} (g:d < c.nt) (j:We (σ d)) :
  ∃ X',Sim c (upd σ d (.tuple [])) (a.setIfInBounds d undef) w lim X':=
 ⟨_,h.putRow YX (Jc.refl w lim (fun _=>False)) (fun _ l=>l.elim) g (by simp) (fun i e=>Jj a d i undef e) (.inl j.1) (fun i q e m=>(h.noRefs j.none i q e m).elim)
  ⟨[],by rw [Yr a d undef (by rw [h.size];exact g)];rfl,rfl,by simp⟩ (fun k b f=>by simp [YX] at f) (fun k p b f=>by simp [YX] at f)⟩
def Zh7 (ops:Array Oper) (o:Oper) (σ:Nat→AV) (gs:List Nat) (v:Bool):Prop:=
 (o.guard=Xe∧v=Xc)∨(∃ j a c b,o.guard=Xa (j,a)∧(ops[j]?).bind (·.dst)=Xa c∧c∈gs∧σ c = .val (.bool b)∧(v=Xc↔a=b))∨
 ∃ j a c,o.guard=Xa (j,a)∧(ops[j]?).bind (·.dst)=Xa c∧c∈gs∧σ c = .tuple []∧v=Xb
def Zax {ops:Array Oper} {o:Oper} {σ:Nat→AV} {gs:List Nat} {v:Bool} (k:Zh7 ops o σ gs v) {c:Ctx} {a:Nat→AV} {g:Array Value} {w:World} {lim:Nat→Nat} {X:Nat→Nat→Option Nat}
  (h:Sim c a g w lim X) (e:∀ d∈gs,a d=σ d):Region.wanted o (yielded ops g)=v:=by
 rcases k with ⟨h1,h2⟩ | ⟨j,want,gd,b,h1,h2,h3,h4,h5⟩ | ⟨j,want,gd,h1,h2,h3,h4,h5⟩
 ·unfold Region.wanted;rw [h1,h2]
 ·have f:=Zkk h h2 ((e gd h3).trans h4);unfold Region.wanted;rw [h1];simp only [f]
  cases v<;>cases want<;>cases b<;>simp_all
 ·have f:=ZgQ h h2 ((e gd h3).trans h4);unfold Region.wanted;rw [h1,h5];simp only [f];rfl
def ZiK {x:SV} (ρ:Nat→V) (h:Zp5 x=Xc):ZdD (x.den ρ):=by
 unfold Zp5 at h;split at h
 ·rename_i cs;exact ⟨_,rfl⟩
 ·cases h
def ZcQ {T:Odr} {i:Nat} {x:SV} (ρ:Nat→V) (h:ZcH T i x=Xc):∀ d k,T.nr d i=Xc→¬ Jz (x.den ρ) d k:=by
 intro d k b a
 cases x with
 | mref d' k' =>
  rcases a with a | ⟨_,a⟩ <;> cases a;simp [ZcH,b] at h
 | eref d' k' i s o =>
  rcases a with a | ⟨_,a⟩ <;> cases a;simp [ZcH,b] at h
 | c y => rcases a with a | ⟨_, a⟩ <;> cases y <;> cases a
 | _ => rcases a with a | ⟨_, a⟩ <;> cases a
def V3 (T:Odr) (P:Program) (E:Env) (R:AV→List AV→Prop) (A:Nat→List V→Prop) (B:Nat→Bool) (ops:Array Oper) (i:Nat) (s:Tr) (ρ:Nat→V) (cont:Tr→Nat→Log→STree):Prop:=
 ∃ (b:Stp) (a:Nat→V) (e:Nat) (c:Tr),Vy E c e∧(cont c e ⟨i,b.F,b.ups.map (·.1)⟩).wp P R A a∧Zsp T P E.nt ops (fun d=>B d=Xc) i (Jk E s ρ) b∧Jk E c a=JV (Jk E s ρ) b.ups
variable {ops:Array Oper} {o:Oper} {i:Nat} {s:Tr} {n:Nat} {ρ:Nat→V} {cont:Tr→Nat→Log→STree} {gs:List Nat} {tx:Odr} {tk:Bool} {B:Nat→Bool}
def ZfU {P:Program} {R:AV→List AV→Prop} {A:Nat→List V→Prop} {ρ:Nat→V} : ∀ (q:List (IE×IE)) (t:STree),(Zmw q t).wp P R A ρ→(∀ p∈q,p.1.den ρ=p.2.den ρ)∧t.wp P R A ρ
 | [], t, h => ⟨by simp, h⟩
 | (a, b) :: q, t, h => by
  obtain ⟨d,e,f⟩:=h;obtain ⟨g,j⟩:=ZfU q t f;refine ⟨fun p c=>?_,j⟩;rcases Xr.1 c with rfl | c
  ·exact Int.le_antisymm d e
  ·exact g p c
def Zfn (ρ:Nat→V) {l:Nat→Bool} : ∀ {a cs:List BC} {j:Nat} {r:List BC} {q:List (IE×IE)},Zbo l j a cs=Xa (r,q)→(∀ p∈q,p.1.den ρ=p.2.den ρ)→
  r.map (BC.den ρ)=a.map (BC.den ρ)∧∀ i,l (j+i)=Xc→(r.map (BC.den ρ))[i]? = (cs.map (BC.den ρ))[i]?
 | [], [], j, r, q, h, _ => by
  simp only [Zbo,Xf,Xw] at h;obtain ⟨rfl,rfl⟩:=h;exact ⟨rfl,fun _ _=>rfl⟩
 | [], _ :: _, _, _, _, h, _ => by simp [Zbo] at h
 | _ :: _, [], _, _, _, h, _ => by simp [Zbo] at h
 | c' :: a, c :: cs, j, r, q, h, hq => by
  simp only [Zbo] at h;split at h
  ·rename_i w x m;split at h
   ·rename_i t;split at h
    ·rename_i y e' k e;split at h
     ·rename_i d;subst d;simp only [Xf,Xw] at h;obtain ⟨rfl,rfl⟩:=h;obtain ⟨f,g⟩:=Zfn ρ m fun p u=>hq p (by simp [u]);have v:e'.den ρ=e.den ρ:=hq (e',e) (by simp);refine ⟨?_,fun i b=>?_⟩
      ·simp only [Xn,f,BC.den,SC.den,v]
      ·cases i with
       | zero => rfl
       | succ i => simpa using g i (by rw [show j + 1 + i = j + (i + 1) by omega]; exact b)
     ·cases h
    ·cases h
   ·rename_i t;simp only [Xf,Xw] at h;obtain ⟨rfl,rfl⟩:=h;obtain ⟨f,g⟩:=Zfn ρ m hq;refine ⟨by simp only [Xn,f],fun i b=>?_⟩
    cases i with
    | zero => rw [UN, t] at b; cases b
    | succ i => simpa using g i (by rw [show j + 1 + i = j + (i + 1) by omega]; exact b)
  ·cases h
def Zg7 {f:Nat→Bool} : ∀ {a cs:List BC} {j:Nat} {r:List BC} {q:List (IE×IE)},Zbo f j a cs=Xa (r,q)→∀ b∈r,b∈a∨b∈cs
 | [], [], j, r, q, h => by
  simp only [Zbo,Xf,Xw] at h;obtain ⟨rfl,rfl⟩:=h;simp
 | [], _ :: _, _, _, _, h => by simp [Zbo] at h
 | _ :: _, [], _, _, _, h => by simp [Zbo] at h
 | c' :: a, c :: cs, j, r, q, h => by
  simp only [Zbo] at h;split at h
  ·rename_i g l k;have ih:=Zg7 k
   have e:∀ b∈g,b∈c'::a∨b∈c::cs:=fun b d=>by
    rcases ih b d with h2 | h2
    ·exact .inl (by simp [h2])
    ·exact .inr (by simp [h2])
   split at h
   ·split at h
    ·split at h
     ·simp only [Xf,Xw] at h;obtain ⟨rfl,rfl⟩:=h;intro b d;rcases Xr.1 d with rfl | d
      ·exact .inr (by simp)
      ·exact e b d
     ·cases h
    ·cases h
   ·simp only [Xf,Xw] at h;obtain ⟨rfl,rfl⟩:=h;intro b d;rcases Xr.1 d with rfl | d
    ·exact .inl (by simp)
    ·exact e b d
  ·cases h
def ZyQ {T:Odr} {d j:Nat} (h:T.kp d j=Xc):T.kpAt d=Xc:=by
 cases T with
 | text => cases h
 | any N M K =>
  simp only [Odr.kp,Odr.kpAt,US,Ut] at h ⊢;exact ⟨_,h,by simp⟩
def ZkH (ρ:Nat→V) {T:Odr} {g:Nat→SV} {u a:Nat×SV} {q:List (IE×IE)} (h:ZmM T g u=Xa (a,q)) (v:∀ p∈q,p.1.den ρ=p.2.den ρ) :
  (a.1,a.2.den ρ)=(u.1,u.2.den ρ)∧(∀ j,T.kp a.1 j=Xc→Js (a.2.den ρ) j=Js ((g a.1).den ρ) j)∧∀ n,u.2.bd n→(∀ i,(g i).bd n)→a.2.bd n:=by
 unfold ZmM at h;split at h
 ·split at h
  ·rename_i w cs l c;split at h
   ·rename_i r C m;simp only [Xf,Xw] at h;obtain ⟨rfl,rfl⟩:=h;obtain ⟨x,y⟩:=Zfn ρ m v;refine ⟨?_,fun j f=>?_,fun n e z=>?_⟩
    ·rw [l];simp only [SV.den,x]
    ·rw [c];exact y j (by rw [XW];exact f)
    ·rw [l] at e;have d:=z u.1;rw [c] at d;intro b k;rcases Zg7 m b k with h2 | h2
     ·exact e b h2
     ·exact d b h2
   ·cases h
  ·cases h
 ·rename_i t;simp only [Xf,Xw] at h;obtain ⟨rfl,rfl⟩:=h;exact ⟨rfl,fun j f=>(by rw [ZyQ f] at t;cases t),fun n e _=>e⟩
def Zds (ρ:Nat→V) {T:Odr} {g:Nat→SV} : ∀ {us a:Ups} {q:List (IE×IE)},ZaY T g us=Xa (a,q)→(∀ p∈q,p.1.den ρ=p.2.den ρ)→
  (a.map fun u=>(u.1,u.2.den ρ))=(us.map fun u=>(u.1,u.2.den ρ))∧(∀ u∈a,∀ j,T.kp u.1 j=Xc→Js (u.2.den ρ) j=Js ((g u.1).den ρ) j)∧∀ n,(∀ u∈us,u.2.bd n)→(∀ i,(g i).bd n)→∀ u∈a,u.2.bd n
 | [], a, q, h, _ => by
  simp only [ZaY,Xf,Xw] at h;obtain ⟨rfl,rfl⟩:=h;exact ⟨rfl,by simp,by simp⟩
 | u :: us, a, q, h, hq => by
  simp only [ZaY] at h;split at h
  ·rename_i C D us1 G f k;simp only [Xf,Xw] at h;obtain ⟨rfl,rfl⟩:=h;obtain ⟨l,m,r⟩:=ZkH ρ f fun p c=>hq p (by simp [c]);obtain ⟨t,x,y⟩:=Zds ρ k fun p c=>hq p (by simp [c]);refine ⟨by simp only [Xn,l,t],fun v b=>?_,fun n d e v b=>?_⟩
   ·rcases Xr.1 b with rfl | b
    ·exact m
    ·exact x v b
   ·rcases Xr.1 b with rfl | b
    ·exact r n (d u (by simp)) e
    ·exact y n (fun w z=>d w (by simp [z])) e v b
  ·cases h
def Wo (af:EnvSound P E) (z:E.top≤1024) (ag:∀ d j,tx.kp d j=Xc→B d=Xc) (hB:∀ d,B d=Xc→ZdD (Jk E s ρ d)) (hi:ops[i]? = Xa o) (hs:Vy E s n) (hg:Zh7 ops o (Jk E s ρ) gs Xc) (h:(ZkC P E tx tk B o i s gs n cont).wp P R A ρ) :
  V3 tx P E R A B ops i s ρ cont:=by
 obtain ⟨b,n',x,ah,fp,h1,h2,h3,aa,y,O⟩:=ZkD af hs (fun i hi=>by unfold gE;rw [P3 (by omega)]) h;have ai:(fun d=>(gE E s d).den ρ)=Jk E s ρ:=rfl;rw [ai] at O;have S:Vy E s n':=ZgE hs h1;have hc:=ZdU hs h2;dsimp only at y
 cases hst:ZaY tx (gE E s) ah with
 | none => rw [hst] at y; exact y.elim
 | some rq =>
 obtain ⟨us,qs⟩:=rq;rw [hst] at y;obtain ⟨hq,T⟩:=ZfU qs _ y;obtain ⟨ab,J,aj⟩:=Zds b hst hq;have h4:=aj n' aa S;have h6:=O;rw [← ab] at h6
 have ac:∀ u∈(us.map fun u=>(u.1,u.2.den b)),∀ j,tx.kp u.1 j=Xc→Js u.2 j=Js (Jk E s ρ u.1) j:=by
  intro u e j hj;obtain ⟨v,hv,rfl⟩:=Xs.1 e;rw [← hc];exact J v hv j hj
 clear O y aa ab J;split at T
 case isFalse=>exact T.elim
 rename_i U;obtain ⟨r,W⟩:=U;rw [XE] at r
 have C:VO E us:=by
  unfold VO;rw [XE];intro u e;have:=r u e;rw [Xk,Xk] at this;exact this.1.1
 have L:∀ u∈(us.map fun u=>(u.1,u.2.den b)),B u.1=Xc→ZdD u.2:=by
  intro u e M;obtain ⟨v,hv,rfl⟩:=Xs.1 e;have:=r v hv;simp only [Xk,XX,XJ] at this;rcases this.1.2 with h0 | h0
  ·have p:B v.1=Xc:=M;rw [p] at h0;cases h0
  ·exact ZiK b h0
 have ad:∀ u∈(us.map fun u=>(u.1,u.2.den b)),∀ d k,tx.nr d u.1=Xc→¬ Jz u.2 d k:=by
  intro u e;obtain ⟨v,hv,rfl⟩:=Xs.1 e;have:=r v hv;rw [Xk] at this;exact ZcQ b this.2
 have N:∀ (f:Nat→AV),(∀ d∈(Vh o).filter (fun t=>!B t),f d=Jk E s ρ d)→(∀ d,B d=Xc→ZdD (f d))→∀ d∈Vh o,Zd9 (Jk E s ρ d) (f d):=by
  intro f h0 h1 d hd
  cases M:B d with
  | true => exact .inr ⟨hB d M, h1 d M⟩
  | false => exact .inl (h0 d (Uu.2 ⟨hd, by simp [M]⟩))
 have g:(us.map fun u=>(u.1,u.2.den b)).map (·.1)=us.map (·.1):=by rw [Uw];rfl
 have D:Jk E (JO us s) b=JV (Jk E s ρ) (us.map fun u=>(u.1,u.2.den b)):=by rw [Ya z b us s C,hc]
 split at T
 ·rename_i d hd;split at T
  ·rename_i hh;refine ⟨⟨(Vh o).filter (fun t=>!B t)++gs++fp++us.map (·.1)++[d],(us.map fun u=>(u.1,u.2.den b))++[(d,x.den b)]⟩,b,n',(JO us s).set depth d x,J7 z (Yf hh.1) (JX z us s C S h4) h3,?_,⟨?_,?_,?_,?_,?_⟩,?_⟩
   ·rw [Us,g];exact T
   ·intro u e;rcases Xq.1 e with e | e
    ·refine Xq.2 (.inl (Xq.2 (.inr ?_)));rw [← g];exact Xs.2 ⟨u,e,rfl⟩
    ·rw [XF] at e;subst e;simp
   ·intro u e M;rcases Xq.1 e with e | e
    ·exact L u e M
    ·rw [XF] at e;subst e;have p:B d=Xc:=M;rw [hh.2.2] at p
     cases p
   ·intro u e;rcases Xq.1 e with e | e
    ·exact ad u e
    ·rw [XF] at e;subst e;unfold ZiA at W;rw [hd] at W;exact ZcQ b W
   ·intro u e j hj;rcases Xq.1 e with e | e
    ·exact ac u e j hj
    ·rw [XF] at e;subst e;have p:=ag _ j hj;rw [hh.2.2] at p
     cases p
   ·intro c Y ae f tm w lim X l Z hT m Q K hK;unfold wpOp;simp only [hi];rw [Zax hg m fun G a=>l G (by simp [a])];rw [P4 rfl]
    refine .inl (h6 c Y f tm w lim X (N f (fun G a=>l G (by simp only [Xq];exact .inl (.inl (.inl (.inl a))))) Z) (fun G a=>l G (by
     rw [g] at a;simp only [Xq] at a ⊢;rcases a with a | a
     ·exact .inl (.inl (.inr a))
     ·exact .inl (.inr a))) hT m K Q fun v w' ha=>?_)
    rw [hd] at ha ⊢
    obtain ⟨H,X',q⟩:=ha (by rw [ae];exact hh.1) (by
     have:JV f (us.map fun u=>(u.1,u.2.den b)) d=(gE E (JO us s) d).den b:=by
      have h7:=congrFun D d;rw [JK] at h7 ⊢;rw [l d (by simp)];exact h7.symm
     rw [this];exact YA b hh.2.1)
    refine hK _ w' H X' ?_;rw [K3];exact q
   ·rw [YG z (Yf hh.1),D,K3];rfl
  ·exact T.elim
 ·rename_i hd;refine ⟨⟨(Vh o).filter (fun t=>!B t)++gs++fp++us.map (·.1),us.map fun u=>(u.1,u.2.den b)⟩,b,n',JO us s,JX z us s C S h4,?_,⟨?_,L,ad,ac,?_⟩,D⟩
  ·rw [g];exact T
  ·intro u e;refine Xq.2 (.inr ?_);rw [← g];exact Xs.2 ⟨u,e,rfl⟩
  ·intro c Y ae f tm w lim X l Z hT m Q K hK;unfold wpOp;simp only [hi];rw [Zax hg m fun G a=>l G (by simp [a])];rw [P4 rfl]
   refine .inl (h6 c Y f tm w lim X (N f (fun G a=>l G (by simp only [Xq];exact .inl (.inl (.inl a)))) Z) (fun G a=>l G (by
    rw [g] at a;simp only [Xq] at a ⊢;rcases a with a | a
    ·exact .inl (.inr a)
    ·exact .inr a)) hT m K Q fun v w' ha=>?_)
   rw [hd] at ha ⊢;obtain ⟨H,X',q⟩:=ha;exact hK _ w' H X' q
def Vu (l:E.top≤1024) (q:∀ d j,tx.kp d j=Xc→B d=Xc) (D:ops[i]? = Xa o) (G:Vy E s n) (H:Zh7 ops o (Jk E s ρ) gs Xb) (h:(ZbQ E B o i s gs n cont).wp P R A ρ) :
  V3 tx P E R A B ops i s ρ cont:=by
 unfold ZbQ at h;split at h
 ·rename_i d r;split at h
  ·rename_i g;refine ⟨⟨gs++[d],[(d,.tuple [])]⟩,ρ,n,s.set depth d (.tuple []),J7 l (Yf g.1) G (by simp [SV.bd]),h,⟨by simp,fun u f J=>?_,fun u f d k _ p=>?_,fun u f j L=>?_,?_⟩,YG l (Yf g.1) _ _ _⟩
   ·rw [XF] at f;subst f;have b:B d=Xc:=J;rw [g.2.2] at b
    cases b
   ·rw [XF] at f;subst f;rcases p with p | ⟨_,p⟩ <;> cases p
   ·rw [XF] at f;subst f;have b:=q _ j L;rw [g.2.2] at b
    cases b
   intro c t m v M w lim X e x N a Q K y;unfold wpOp;simp only [D];rw [Zax H a fun O z=>e O (by simp [z])];rw [P3 (by simp),r]
   obtain ⟨X',C⟩:=a.putUndef (d:=d) (by rw [m];exact g.1) (by
    rw [e d (by simp)];exact Z3 (YA ρ g.2.1))
   exact y _ w lim X' C
  ·exact h.elim
 ·rename_i r;refine ⟨⟨gs,[]⟩,ρ,n,s,G,h,⟨by simp,by simp,by simp,by simp,?_⟩,rfl⟩;intro c t m v M w lim X e x N a Q K y;unfold wpOp;simp only [D];rw [Zax H a e];rw [P3 (by simp),r];exact y _ w lim X a
def Wt (f:E.top≤1024) {t:Nat} {b:BE} {v:Bool} (e:gE E s t = .c (.bool b)) (g:b.den ρ=v):t < E.top∧Jk E (s.set depth t (.c (.bool (.lit v)))) ρ=Jk E s ρ:=by
 have a:t < E.top:=by
  unfold gE at e;split at e
  ·assumption
  ·cases e
 refine ⟨a,?_⟩;rw [YG f a];funext d;by_cases hd:d=t
 ·subst hd;rw [Jl];simp only [Jk,e,SV.den,SC.den,g,BE.den]
 ·rw [Zp _ _ hd]
def Zgl (t:EnvSound P E) (e:E.top≤1024) (l:∀ d j,tx.kp d j=Xc→B d=Xc) (G:∀ d,B d=Xc→ZdD (Jk E s ρ d)) (y:ops[i]? = Xa o) (C:Vy E s n) (h:(Zma P E tx tk B ops o i s n cont).wp P R A ρ):V3 tx P E R A B ops i s ρ cont:=by
 unfold Zma at h;split at h
 ·rename_i u;exact Wo t e l G y C (.inl ⟨u,rfl⟩) h
 ·rename_i j a u;split at h
  ·exact h.elim
  ·rename_i f p;split at h
   ·rename_i z;have m:Jk E s ρ f = .tuple []:=by simp only [Jk,z];rfl
    exact Vu e l y C (.inr (.inr ⟨j,a,f,u,p,by simp,m,rfl⟩)) h
   ·rename_i b z;have m:Jk E s ρ f = .val (.bool b):=by simp only [Jk,z];rfl
    split at h
    ·rename_i w;exact Wo t e l G y C (.inr (.inl ⟨j,a,f,b,u,p,by simp,m,by simp [w]⟩)) h
    ·rename_i w;exact Vu e l y C (.inr (.inl ⟨j,a,f,b,u,p,by simp,m,by simp [w]⟩)) h
   ·rename_i b _ z;obtain ⟨J,L⟩:=h
    have q:∀ v,b.den ρ=v→(if a=v then ZkC P E tx tk B o i (s.set depth f (.c (.bool (.lit v)))) [f] n cont else ZbQ E B o i (s.set depth f (.c (.bool (.lit v)))) [f] n cont).wp P R A ρ→V3 tx P E R A B ops i s ρ cont:=by
     intro v m w;obtain ⟨H,g⟩:=Wt e z m;have D:Vy E (s.set depth f (.c (.bool (.lit v)))) n:=J7 e H C trivial;have r:Jk E (s.set depth f (.c (.bool (.lit v)))) ρ f = .val (.bool v):=by rw [g];simp only [Jk,z,SV.den,SC.den,m]
     have k:V3 tx P E R A B ops i (s.set depth f (.c (.bool (.lit v)))) ρ cont:=by
      split at w
      ·rename_i x;exact Wo t e l (by rw [g];exact G) y D (.inr (.inl ⟨j,a,f,v,u,p,by simp,r,by simp [x]⟩)) w
      ·rename_i x;exact Vu e l y D (.inr (.inl ⟨j,a,f,v,u,p,by simp,r,by simp [x]⟩)) w
     unfold V3 at k ⊢;rw [g] at k;exact k
    cases m:b.den ρ with
    | true => exact q Xc m (J m)
    | false => exact q Xb m (L m)
   ·exact h.elim
def Zgx:Nat→List Stp→List Log
 | _, [] => []
 | i, s :: ss => Zgx (i + 1) ss ++ [⟨i, s.F, s.ups.map (·.1)⟩]
def ZaP:∀ (a:List Stp) (i j:Nat) (s:Stp),a[j]? = Xa s→(⟨i+j,s.F,s.ups.map (·.1)⟩:Log)∈Zgx i a
 | [], i, j, s, h => by simp at h
 | s0 :: a, i, 0, s, h => by
  simp only [XM,Xf] at h;subst h;simp [Zgx]
 | s0 :: a, i, j + 1, s, h => by
  have:=ZaP a (i+1) j s (by simpa using h);rw [show i+(j+1)=i+1+j by omega];exact Xq.2 (.inl this)
def Zcz (c:EnvSound P E) (e:E.top≤1024) (f:∀ d j,tx.kp d j=Xc→B d=Xc) {m:Nat→Bool} {k:Tr→Nat→List Log→STree} : ∀ (l:List Oper) (i:Nat) (s:Tr) (n:Nat) (a:List Log) (ρ:Nat→V),(∀ j,l[j]? = ops[i+j]?)→(∀ d,B d=Xc→ZdD (Jk E s ρ d))→Vy E s n→
  (ZpH P E tx m B ops l i s n a k).wp P R A ρ→∃ (b:List Stp) (g:Nat→V) (t:Nat) (p:Tr),b.length=l.length∧Vy E p t∧(k p t (Zgx i b++a)).wp P R A g∧
   Zgd tx P E.nt ops (fun d=>B d=Xc) i (Jk E s ρ) b∧Jk E p g=Zgf (Jk E s ρ) b
 | [], i, s, n, a, ρ, _, _, hs, h => ⟨[], ρ, n, s, rfl, hs, h, trivial, rfl⟩
 | o :: l, i, s, n, a, ρ, hl, hB, hs, h => by
  have u:ops[i]? = Xa o:=by simpa using (hl 0).symm
  obtain ⟨v,q,w,x,y,z,g3,g4⟩:=Zgl c e f hB u hs h
  obtain ⟨b,r,C,D,G,H,J,L,M⟩:=Zcz c e f l (i+1) x w _ q (fun j=>by
   have:=hl (j+1);rw [show i+(j+1)=i+1+j by omega] at this;simpa using this) (by rw [g4];exact ZeU _ _ g3.2.1 hB) y z
  refine ⟨v::b,r,C,D,by simp [G],H,?_,⟨g3,?_⟩,?_⟩
  ·simp only [Zgx,XB,Tt];exact J
  ·rw [← g4];exact L
  ·simp only [Zgf];rw [← g4];exact M
def Zm8 {a b:List Nat} (h:ZwJ a b=Xc):∀ d∈a,d∉b:=by
 intro d c;simp only [ZwJ,XE] at h;simpa using h d c
def Znh {E:Env} (s:Tr):∀ i,E.top≤i→gE E s i = .dead:=fun i a=>by unfold gE;rw [P3 (by omega)]
def Zpq {c:Ctx} {σ:Nat→AV} {d:Array Value} {w:World} {lim:Nat→Nat} {X:Nat→Nat→Option Nat} (h:Sim c σ d w lim X) {i k:Nat} (a:Jz (σ i) i k):False:=by
 obtain ⟨p,b⟩:=VC h a;rcases a with a | ⟨_,a⟩ <;> rw [a] at b<;>cases b
def ZtK {a:Bool} {d j:Nat} (h:(ZnA P E a ops s).kp d j=Xc):Zp5 (gE E s d)=Xc:=by
 cases a with
 | false => cases h
 | true =>
  simp only [ZnA,Odr.kp,US,Uu] at h;exact h.2
def Zgu (hm:P.follows .mixedOrders=Xc) (T:EnvSound P E) (U:E.top≤1024) {id:Nat} {f:Bool} {k:Tr→Nat→STree} {W:Nat→Bool} (Y:∀ d j,(ZnA P E f ops s).kp d j=Xc→B d=Xc) (Z:∀ d,B d=Xc→ZdD (Jk E s ρ d)) (hs:Vy E s n)
  (h:(ZpH P E (ZnA P E f ops s) W B ops ops.toList 0 s n [] fun t u C=>if f=Xc then (if ZhV ops C=Xc then k t u else .stuck 114) else k t u).wp P R A ρ)
  {c:Ctx} (D:c.P=P) (G:c.nt=E.nt) {H:Array Value} {w:World} {lim:Nat→Nat} {X:Nat→Nat→Option Nat} (q:Sim c (Jk E s ρ) H w lim X) {Q:Exit→Act→World→Prop}
  (M:∀ t u r,Vy E t u→(k t u).wp P R A r→∀ tm' w' m X',Sim c (Jk E t r) tm' w' m X'→Q .normal ⟨tm',[]⟩ w'):(Code.region id ops f).wp P Q ⟨H,[]⟩ w:=by
 obtain ⟨N,r,u,t,h1,h2,J,h4,h5⟩:=Zcz T U Y ops.toList 0 s n [] ρ (by simp) Z hs h;have v:N.length=ops.size:=by simpa using h1
 cases f with
 | false =>
  refine wp_region ?_;rw [List.range_eq_range',← v];refine ZdO D G N 0 _ H w lim X h4 Z q fun tm' w' m X' z=>M t u r h2 (by simpa using J) tm' w' m X' ?_;rw [h5];exact z
 | true =>
  simp only [if_true] at J;split at J
  ·rename_i hi;rw [UG] at hi;simp only [ZhV,Xk,CheckFast.beforeF_eq] at hi;obtain ⟨x,y⟩:=hi;refine wp_region_any hm ?_;have aa:Sim c (Jk E s ρ) H w.drew lim X:=q.world (Jc.refl w lim fun _=>False).drew fun b hb=>hb.elim;refine Znc D G h4 (fun d i k hd hr=>?_) Z v ?_ ?_ (fun tm' w' m X' z=>M t u r h2 J tm' w' m X' (by rw [h5];exact z)) ops.size _ H w.drew lim X (by simp) ?_ ?_ ?_
   ·have L:(Jx (gE E s) d E.top).isEmpty=Xc:=by
     rcases Bool.or_eq_true_iff.1 hd with h0 | h0
     ·simp only [Xk] at h0;exact h0.1.2
     ·by_cases O:(Jx (gE E s) d E.top).isEmpty=Xc
      ·exact O
      ·dsimp only at h0;rw [P3 O] at h0;cases h0
    rw [List.isEmpty_iff] at L;have ab:=(J8 (g:=gE E s) ρ (Znh s) (d:=d)).2 i k;by_cases hid:i=d
    ·subst hid;exact Zpq q hr
    ·have:=ab hid hr;rw [L] at this
     cases this
   ·intro i o ac e O hb;rw [XE] at x
    have:=x (o,i) (by
     rw [List.mem_zipIdx_iff_getElem?];simpa using ac)
    rw [Array.all_eq_true_iff_forall_mem] at this;have:=this e O;simpa [hb] using this
   ·rintro i j a b ad ae af ⟨S,hS,ag,ah⟩;rw [XE] at y;have m1:=ZaP N 0 i a ad;have m2:=ZaP N 0 j b ae;rw [XW] at m1 m2;have:=y _ m1;rw [XE] at this;have:=this _ m2;simp only [XX,Xk,XJ,decide_eq_false_iff_not] at this;rcases this with (this | this) | this
    ·exact (this af).elim
    ·exact (ah (Zex hS i j ag this)).elim
    ·exact ⟨Zm8 this.1,Zm8 this.2⟩
   ·intro k o M hl;have ai:=(UF.1 M).1;simp [Ux,ai] at hl
   ·have:=List.countP_le_length (p:=fun i=>!(Array.replicate ops.size Xb).getD i Xb) (l:=XK ops.size);simpa using this
   ·rw [ZbR]
    ·exact aa
    ·intro j _ hj;simp [Ux]
  ·exact J.elim
end
inductive YV (P:Program):AV→AV→Prop
 | same {x : AV} (h : x.isCell = Xc ∨ ∃ b e xs, x = .own b e xs) : YV P x x
 | nil {s s' : Nat} {f : Bool} : YV P (.slice Xc s []) (.slice f s' [])
 | imm {f : Bool} {s : Nat} {xs : List (List AV)} : YV P (.slice f s xs) (.slice Xb s xs)
 | immN {f : Bool} {s s' : Nat} : YV P (.slice f s []) (.slice Xb s' [])
 | own {e : TypeId} {xs : List (List AV)} : YV P (.own Xb e xs) (.slice Xb (P.cellsOf e) xs)
 | ownN {b b' : Bool} {e : TypeId} : YV P (.own b e []) (.own b' e [])
 | ownZ {b : Bool} {e : TypeId} {s : Nat} : YV P (.own b e []) (.slice Xb s [])
 | give {b : Bool} {s : Nat} {e : TypeId} : YV P (.slice Xc s []) (.own b e [])
def Zhq {w:World} {lim:Nat→Nat} {b:Bool} {e:TypeId} {xs:List (List AV)} {v:Value} (h:Rep w lim (.own b e xs) v):False:=by cases h
def Zgv {P:Program} {w:World} {lim:Nat→Nat} {b b':Bool} {e:TypeId} {v:Value} {ob:Option Nat} (h:Jt P w lim b e [] v ob):Jt P w lim b' e [] v ob:=by
 rcases h with ⟨us,h1,h2,h3,h4,h5,h6⟩ | h | ⟨_,_,_,_,_,_,_,_,_,_,_,_,h,_⟩
 ·have a:us = []:=Uh (by rw [h1.1];simp);subst a;refine .inl ⟨[],h1,h2,fun c d=>?_,h4,h5,h6⟩;have:=h3 c d;rw [this];simp
 ·exact .inr (.inl h)
 ·obtain ⟨_,h⟩:=h;cases h
def Zn8 {P:Program} {w:World} {lim:Nat→Nat} {x y:AV} {v:Value} (h:Rep w lim x v) (a:YV P x y) (b:y.isCell=Xc):Rep w lim y v:=by
 cases a with
 | same _ => exact h
 | nil => exact Wr (fun _ => rfl) h
 | imm => exact Zh9 h
 | immN => exact Wr (fun h => by cases h) h
 | own => exact (Zhq h).elim
 | ownN => exact (Zhq h).elim
 | ownZ => exact (Zhq h).elim
 | give => cases b
def ZmH {P:Program} {w:World} {lim:Nat→Nat} {ob:Option Nat} {x y:AV} {v:Value} (h:Yn P w lim ob x v) (c:YV P x y):∃ a,(a=ob∨a=Xe)∧((∃ b e xs,x = .own b e xs)→a=ob)∧Yn P w lim a y v:=by
 cases c with
 | same _ => exact ⟨ob, .inl rfl, fun _ => rfl, h⟩
 | nil => exact ⟨ob, .inl rfl, fun _ => rfl, Wr (fun _ => rfl) h⟩
 | imm => exact ⟨ob, .inl rfl, fun _ => rfl, Zh9 h⟩
 | immN => exact ⟨ob, .inl rfl, fun _ => rfl, Wr (fun h => by cases h) h⟩
 | own => exact ⟨ob, .inl rfl, fun _ => rfl, Jt.rep h Xb rfl⟩
 | ownN => exact ⟨ob, .inl rfl, fun _ => rfl, Zgv h⟩
 | ownZ => exact ⟨ob, .inl rfl, fun _ => rfl, Wr (f := Xb) (fun h => h) (Jt.rep (Zgv (b' := Xb) h) Xb rfl)⟩
 | give => exact ⟨Xe, .inr rfl, fun ⟨_, _, _, h⟩ => (by cases h), ZbK h⟩
inductive Zdb (P:Program):AV→AV→Prop
 | cell {x y : AV} (h : YV P x y) : Zdb P x y
 | agg {cs cs' : List AV} (hl : cs.length = cs'.length) (hc : ∀ c ∈ cs', c.isCell = Xc) (h : ∀ (i : Nat) (c c' : AV), cs[i]? = Xa c → cs'[i]? = Xa c' → YV P c c') : Zdb P (.agg cs) (.agg cs')
def ZrB {w:World} {lim:Nat→Nat} {cs:List AV} {v:Value} (h:Rep w lim (.agg cs) v):∃ vs:List Value,v = .agg vs.toArray∧cs.length=vs.length∧
  ∀ (i:Nat) (c:AV) (v:Value),cs[i]? = Xa c→vs[i]? = Xa v→Rep w lim c v:=by
 cases h with
 | agg hl hc hr => exact ⟨_, rfl, hl, hr⟩
def Zgb {P:Program} {w:World} {lim:Nat→Nat} {ob:Option Nat} {x y:AV} {v:Value} (h:Yn P w lim ob x v) (g:Zdb P x y):∃ a,(a=ob∨a=Xe)∧((∃ b e xs,x = .own b e xs)→a=ob)∧Yn P w lim a y v:=by
 cases g with
 | cell g => exact ZmH h g
 | @agg cs cs' hl hc hp =>
  refine ⟨ob,.inl rfl,fun _=>rfl,?_⟩;obtain ⟨vs,rfl,m,k⟩:=ZrB (show Rep w lim (.agg cs) v from h);refine Rep.agg (by omega) hc fun i j u d l=>?_;obtain ⟨c,f⟩:∃ c,cs[i]? = Xa c:=⟨_,Xm (by rw [hl];exact (Xx.1 d).1)⟩;exact Zn8 (k i c u f l) (hp i c j f d) (hc j (Xo d))
def Zea {P:Program} {w:World} {lim:Nat→Nat} {cs d:List AV} {us:List Value} {Y:Nat→Option Nat} (l:cs.length=d.length) (h:∀ (i:Nat) (c:AV) (u:Value),cs[i]? = Xa c→us[i]? = Xa u→Yn P w lim (Y i) c u)
  (m:∀ (i:Nat) (c a:AV),cs[i]? = Xa c→d[i]? = Xa a→Zdb P c a) :
  ∃ r:Nat→Option Nat,(∀ i,r i=Y i∨r i=Xe)∧(∀ (i:Nat) (a:AV),i < us.length→d[i]? = Xa a→(∃ b e xs,cs[i]? = Xa (.own b e xs))→r i=Y i)∧∀ (i:Nat) (a:AV) (u:Value),d[i]? = Xa a→us[i]? = Xa u→Yn P w lim (r i) a u:=by
 have f:∀ i,∃ ob:Option Nat,(ob=Y i∨ob=Xe)∧(∀ (a:AV),i < us.length→d[i]? = Xa a→(∃ b e xs,cs[i]? = Xa (.own b e xs))→ob=Y i)∧∀ (a:AV) (u:Value),d[i]? = Xa a→us[i]? = Xa u→Yn P w lim ob a u:=by
  intro i
  cases hc':d[i]? with
  | none => exact ⟨Xe, .inr rfl, fun a _ h => (by cases h), fun a u h => by cases h⟩
  | some a =>
   cases hu:us[i]? with
   | none => exact ⟨Xe, .inr rfl, fun a n _ => (by have := List.getElem?_eq_none_iff.1 hu; omega), fun a u _ h => by cases h⟩
   | some u =>
    obtain ⟨c,g⟩:∃ c,cs[i]? = Xa c:=⟨_,Xm (by rw [l];exact (Xx.1 hc').1)⟩;obtain ⟨ob,o,p,q⟩:=Zgb (h i c u g hu) (m i c a g hc');refine ⟨ob,o,fun _ _ _ ⟨b,e,xs,k⟩=>p ⟨b,e,xs,by rw [g] at k;exact Option.some.inj k⟩,fun v x s t=>?_⟩
    cases s
    cases t
    exact q
 obtain ⟨r,j⟩:=TE f;exact ⟨r,fun i=>(j i).1,fun i=>(j i).2.1,fun i=>(j i).2.2⟩
inductive Y5 (P:Program):AV→AV→Prop
 | dead {x : AV} : Y5 P x .dead
 | comp {x y : AV} (h : Zdb P x y) : Y5 P x y
 | tuple {cs cs' : List AV} (hl : cs.length = cs'.length) (h : ∀ (i : Nat) (c c' : AV), cs[i]? = Xa c → cs'[i]? = Xa c' → Zdb P c c') : Y5 P (.tuple cs) (.tuple cs')
 | box {cs cs' : List AV} (hl : cs.length = cs'.length) (h : ∀ (i : Nat) (c c' : AV), cs[i]? = Xa c → cs'[i]? = Xa c' → YV P c c') : Y5 P (.box cs) (.box cs')
 | gbox {cs cs' : List AV} (hl : cs.length = cs'.length) (h : ∀ (i : Nat) (c c' : AV), cs[i]? = Xa c → cs'[i]? = Xa c' → YV P c c') : Y5 P (.gbox cs) (.gbox cs')
def KZ {P:Program} {x y:AV} (h:YV P x y):y.isCell=Xc∨∃ b e xs,y = .own b e xs:=by
 cases h with
 | same h => exact h
 | nil => exact .inl rfl
 | imm => exact .inl rfl
 | immN => exact .inl rfl
 | own => exact .inl rfl
 | ownN => exact .inr ⟨_, _, _, rfl⟩
 | ownZ => exact .inl rfl
 | give => exact .inr ⟨_, _, _, rfl⟩
def Za7 {P:Program} {x y:AV} (h:YV P x y):x.isCell=Xc∨∃ b e xs,x = .own b e xs:=by
 cases h with
 | same h => exact h
 | nil => exact .inl rfl
 | imm => exact .inl rfl
 | immN => exact .inl rfl
 | own => exact .inr ⟨_, _, _, rfl⟩
 | ownN => exact .inr ⟨_, _, _, rfl⟩
 | ownZ => exact .inr ⟨_, _, _, rfl⟩
 | give => exact .inl rfl
def Zcs {P:Program} {e e':TypeId} {xs xs':List (List AV)} (h:YV P (.own Xc e xs) (.own Xc e' xs')):e'=e∧xs'=xs:=by
 cases h with
 | same _ => exact ⟨rfl, rfl⟩
 | ownN => exact ⟨rfl, rfl⟩
def Zd5 {P:Program} {w:World} {lim:Nat→Nat} {Y:Nat→Option Nat} {cs a:List AV} {v:Value} (h:ZK P w lim Y cs v) (f:cs.length=a.length)
  (x:∀ (i:Nat) (c g:AV),cs[i]? = Xa c→a[i]? = Xa g→YV P c g):∃ r:Nat→Option Nat,(∀ k,r k=Y k∨r k=Xe)∧r 0=Y 0∧(∀ k,(∃ p,Zy (.box cs) k=Xa p)→r k=Y k)∧ZK P w lim r a v:=by
 obtain ⟨b,arr,t,z,rfl,A,C,D,J,E⟩:=h;obtain ⟨r,G,g3,H⟩:=Zea (P:=P) (w:=w) (lim:=lim) (us:=arr.toList) (Y:=fun i=>Y (i+1)) f (fun i c u d j=>E i c u d (by simpa using j)) (fun i c g d l=>.cell (x i c g d l));refine ⟨fun k=>match k with | 0=>Y 0 | k+1=>r k,fun k=>?_,rfl,fun k m=>?_,?_⟩
 ·cases k with
  | zero => exact .inl rfl
  | succ k => exact G k
 ·obtain ⟨⟨e,xs⟩,m⟩:=m;rcases ZI m with ⟨h,_⟩ | ⟨ds,q,hd,rfl,hq⟩ | ⟨_,_,h,_⟩
  case inr.inr=>cases h
  ·cases h
  ·cases hd
   have n:=(Xx.1 hq).1;exact g3 q _ (by simp;omega) (Xm (by rw [← f];exact n)) ⟨_,_,_,hq⟩
 ·refine ⟨b,arr,t,z,rfl,A,by rw [C,f],D,fun c d=>?_,fun i c u d j=>H i c u d (by simpa using j)⟩;obtain ⟨i,y⟩:=X6.1 d;obtain ⟨o,s⟩:∃ o,cs[i]? = Xa o:=⟨_,Xm (by rw [f];exact (Xx.1 y).1)⟩;exact (KZ (x i o c s y)).imp id .inl
def Yy {P:Program} {x y:AV} (h:Zdb P x y):y.isB=Xb:=by
 cases h with
 | agg _ _ _ => rfl
 | cell h =>
  rcases KZ h with hy | ⟨_,_,_,rfl⟩
  ·cases y<;>first | rfl | (simp [AV.isCell] at hy)
  ·rfl
def ZmC {P:Program} {x y:AV} (h:Y5 P x y) (a:y.isG=Xc):x.isG=Xc:=by
 cases h with
 | gbox _ _ => rfl
 | comp h => have := Yy h; rw [ZaE a] at this; cases this
 | _ => cases a
def Zpk {P:Program} {x y:AV} (h:Zdb P x y):(∀ d o,y≠.ptr d o)∧(∀ d k,y≠.mref d k)∧∀ g ds,y≠.clo g ds:=by
 cases h with
 | agg _ _ _ => exact ⟨fun _ _ h => (by cases h), fun _ _ h => (by cases h), fun _ _ h => (by cases h)⟩
 | cell hw =>
  refine ⟨fun _ _ e=>?_,fun _ _ e=>?_,fun _ _ e=>?_⟩ <;> subst e<;>rcases KZ hw with h | ⟨_,_,_,h⟩ <;> cases h
def Zal {P:Program} {x y:AV} (h:Y5 P x y):(∀ d o,y≠.ptr d o)∧(∀ d k,y≠.mref d k)∧∀ g ds,y≠.clo g ds:=by
 cases h with
 | comp hw => exact Zpk hw
 | _ => exact ⟨fun _ _ h => (by cases h), fun _ _ h => (by cases h), fun _ _ h => (by cases h)⟩
def Zg2 {P:Program} {x y:AV} (h:Y5 P x y) {k:Nat} {e e':TypeId} {xs xs':List (List AV)} (b:Zy x k=Xa (e,xs)) (a:Zy y k=Xa (e',xs')):e'=e∧xs'=xs:=by
 rcases ZI b with ⟨rfl,rfl⟩ | ⟨cs,q,rfl,rfl,hq⟩ | ⟨cs,q,rfl,rfl,hq⟩
 ·rcases ZI a with ⟨rfl,_⟩ | ⟨_,_,_,h0,_⟩ | ⟨_,_,_,h0,_⟩
  ·cases h with
   | comp hw =>
    cases hw with
    | cell hc => exact Zcs hc
  ·cases h0
  ·cases h0
 ·rcases ZI a with ⟨_,h0⟩ | ⟨cs',q',rfl,h0,hq'⟩ | ⟨cs',q',rfl,h0,hq'⟩
  ·cases h0
  ·cases h0
   cases h with
   | comp hw => have := Yy hw; cases this
   | box hl hp => exact Zcs (hp q _ _ hq hq')
  ·cases h with
   | comp hw => have := Yy hw; cases this
 ·rcases ZI a with ⟨_,h0⟩ | ⟨cs',q',rfl,h0,hq'⟩ | ⟨cs',q',rfl,h0,hq'⟩
  ·cases h0
  ·cases h with
   | comp hw => have := Yy hw; cases this
  ·cases h0
   cases h with
   | comp hw => have := Yy hw; cases this
   | gbox hl hp => exact Zcs (hp q _ _ hq hq')
def Zf5 {P:Program} {w:World} {lim:Nat→Nat} {X:Nat→Nat→Option Nat} {σ:Nat→AV} {d:Nat} {x y:AV} {v:Value} (h:Z2 P w lim X σ d x v) (a:Y5 P x y) :
  ∃ r:Nat→Option Nat,(∀ k,r k=X d k∨r k=Xe)∧(y.isB=Xc→r 0=X d 0)∧(∀ k,(∃ p,Zy x k=Xa p)→(∃ p,Zy y k=Xa p)→r k=X d k)∧∀ (X':Nat→Nat→Option Nat) (g:Nat→AV) (j:Nat),X' j=r→Z2 P w lim X' g j y v:=by
 cases a with
 | dead => exact ⟨fun _ => Xe, fun _ => .inr rfl, fun h => (by cases h), fun k _ ⟨p, f⟩ => (by rcases ZI (e := p.1) (xs := p.2) f with ⟨h, _⟩ | ⟨_, _, h, _⟩ | ⟨_, _, h, _⟩ <;> cases h), fun _ _ _ _ => trivial⟩
 | comp a =>
  have z:=Yy a
  have m:Yn P w lim (X d 0) x v:=by
   cases a with
   | agg hl m f => exact h
   | cell a =>
    rcases Za7 a with hx | ⟨b,e,xs,rfl⟩
    ·cases x<;>simp [AV.isCell] at hx<;>exact h
    ·exact h
  obtain ⟨ob,C,D,n⟩:=Zgb m a;refine ⟨fun k=>if k=0 then ob else Xe,fun k=>?_,fun h=>by (rw [z] at h;cases h),fun k ⟨p,f⟩ _=>?_,fun X' g j l=>?_⟩
  ·dsimp only;split
   ·rename_i o;subst o;exact C
   ·exact .inr rfl
  ·rcases ZI (e:=p.1) (xs:=p.2) f with ⟨hx,rfl⟩ | ⟨cs,q,hx,_⟩ | ⟨cs,q,hx,_⟩
   case inr.inr=>
    subst hx
    cases a with
    | cell a => rcases Za7 a with h | ⟨_, _, _, h⟩ <;> cases h
   ·exact D ⟨_,_,_,hx⟩
   ·subst hx
    cases a with
    | cell a => rcases Za7 a with h | ⟨_, _, _, h⟩ <;> cases h
  ·have A:X' j 0=ob:=by rw [l];rfl
   cases a with
   | agg hl m f => exact n
   | cell a =>
    rcases KZ a with hy | ⟨b,e,xs,rfl⟩
    ·cases y<;>simp [AV.isCell] at hy<;>exact n
    ·show Jt P w lim b e xs v (X' j 0);rw [A];exact n
 | @tuple cs cs' hl f =>
  obtain ⟨us,rfl,n,A⟩:=h;obtain ⟨r,s,_,t⟩:=Zea (Y:=fun i=>X d (i+1)) hl A f;refine ⟨fun k=>match k with | 0=>Xe | k+1=>r k,fun k=>?_,fun h=>(by cases h),fun k ⟨p,f⟩ _=>(by rcases ZI (e:=p.1) (xs:=p.2) f with ⟨h,_⟩ | ⟨_,_,h,_⟩ | ⟨_,_,h,_⟩ <;> cases h),fun X' g j l=>?_⟩
  ·cases k with
   | zero => exact .inr rfl
   | succ k => exact s k
  ·refine ⟨us,rfl,by rw [n,hl],fun i c u m E=>?_⟩;have:X' j (i+1)=r i:=by rw [l]
   rw [this];exact t i c u m E
 | @box cs cs' hl f =>
  obtain ⟨r,s,t,g4,g3⟩:=Zd5 h hl f;exact ⟨r,s,fun _=>t,fun k o _=>g4 k o,fun X' g j l=>by (show ZK P w lim (X' j) cs' v;rw [l];exact g3)⟩
 | @gbox cs cs' hl f =>
  obtain ⟨G,h⟩:=h;obtain ⟨r,s,t,g4,g3⟩:=Zd5 h hl f;exact ⟨r,s,fun _=>t,fun k o _=>g4 k (by cases k<;>exact o),fun X' g j l=>⟨G,by rw [l];exact g3⟩⟩
def Jc.wider {w:World} {lim:Nat→Nat} {w':World} {a:Nat→Nat} {S S':Nat→Prop} (h:Jc w lim w' a S) (c:∀ b,S b→S' b):Jc w lim w' a S':=
 ⟨h.os,h.tape,h.output,h.size,h.frz,fun b d e=>h.blk b d fun f=>e (c b f),h.ext⟩
def ZAI (c:List AV) (a b:AV):Prop:=∃ g ds,a = .clo g ds∧b = .clo g ds∧∀ d∈ds,(Z5 c d).isB=Xc
def Zu3 (c:List AV) (a b:AV):Prop:=∃ j q,a = .mref j q∧b = .mref j q∧∃ p,Zy (Z5 c j) q=Xa p
def Wm (P:Program) (d c:List AV):Prop:=d.length=c.length∧∀ (i:Nat) (a b:AV),d[i]? = Xa a→c[i]? = Xa b→Y5 P a b∨ZAI c a b∨Zu3 c a b
def ZcX {P:Program} {d c:List AV} (h:Wm P d c) (i:Nat):Y5 P (Z5 d i) (Z5 c i)∨ZAI c (Z5 d i) (Z5 c i)∨Zu3 c (Z5 d i) (Z5 c i):=by
 cases hb:c[i]? with
 | none =>
  have:Z5 c i = .dead:=by simp [Z5,hb]
  rw [this];exact .inl .dead
 | some b =>
  obtain ⟨a,e⟩:∃ a,d[i]? = Xa a:=⟨_,Xm (by rw [h.1];exact (Xx.1 hb).1)⟩;have f:Z5 d i=a:=by simp [Z5,e]
  have g:Z5 c i=b:=by simp [Z5,hb]
  rw [f,g];exact h.2 i a b e hb
def ZeK {P:Program} {b c:List AV} (h:Wm P b c) {i:Nat} (a:(Z5 c i).isG=Xc):(Z5 b i).isG=Xc:=by
 rcases ZcX h i with h1 | ⟨g,ds,_,h1,_⟩ | ⟨_,_,_,h1,_⟩
 ·exact ZmC h1 a
 ·rw [h1] at a;cases a
 ·rw [h1] at a;cases a
def Zhf:∀ (c d:List AV),c.length=d.length→(∀ (i:Nat) (a b:AV),c[i]? = Xa a→d[i]? = Xa b→b.isG=Xc→a.isG=Xc)→d.countP AV.isG≤c.countP AV.isG
 | [], [], _, _ => Xt _
 | [], _ :: _, h, _ => by simp at h
 | _ :: _, [], h, _ => by simp at h
 | a :: c, b :: d, hl, h => by
  have ih:=Zhf c d (by simpa using hl) fun i x y e f=>h (i+1) x y (by simpa using e) (by simpa using f);have g:=h 0 a b rfl rfl;rw [Tf,Tf];by_cases hb:b.isG=Xc
  ·rw [P4 hb,P4 (g hb)];omega
  ·rw [P3 hb];split<;>omega
def ZfR {P:Program} {c d:List AV} (h:Wm P c d):d.countP AV.isG≤c.countP AV.isG:=
 Zhf c d h.1 fun i a b e f g=>by
  have j:Z5 c i=a:=by simp [Z5,e]
  have k:Z5 d i=b:=by simp [Z5,f]
  have:=ZeK h (i:=i) (by rw [k];exact g)
  rwa [j] at this
def ZdW {P:Program} {w:World} {lim:Nat→Nat} {X:Nat→Nat→Option Nat} {o a:List AV} {vs:Nat→Value} (h:∀ i,Z2 P w lim X (Z5 o) i (Z5 o i) (vs i)) (y:Wm P o a) :
  ∃ X':Nat→Nat→Option Nat,(∀ i k,X' i k=X i k∨X' i k=Xe)∧(∀ i,(Z5 a i).isB=Xc→X' i 0=X i 0)∧∀ i,Z2 P w lim X' (Z5 a) i (Z5 a i) (vs i):=by
 have s:∀ i,∃ r:Nat→Option Nat,(∀ k,r k=X i k∨r k=Xe)∧((Z5 a i).isB=Xc→r 0=X i 0)∧((∀ g ds,Z5 a i≠.clo g ds)→(∀ j q,Z5 a i≠.mref j q)→∀ X':Nat→Nat→Option Nat,X' i=r→Z2 P w lim X' (Z5 a) i (Z5 a i) (vs i))∧
   ∀ k e xs e' xs',Zy (Z5 o i) k=Xa (e,xs)→Zy (Z5 a i) k=Xa (e',xs')→e'=e∧xs'=xs∧r k=X i k:=by
  intro i;rcases ZcX y i with h1 | ⟨g,ds,_,h1,_⟩ | ⟨_,_,_,h1,_⟩
  ·obtain ⟨r,D,E,g4,g3⟩:=Zf5 (h i) h1;refine ⟨r,D,E,fun _ _ X' f=>g3 X' _ _ f,fun k e xs e' xs' z c=>?_⟩;obtain ⟨m,G⟩:=Zg2 h1 z c;exact ⟨m,G,g4 k ⟨_,z⟩ ⟨_,c⟩⟩
  ·exact ⟨fun _=>Xe,fun _=>.inr rfl,fun l=>by (rw [h1] at l;cases l),fun t _=>(t g ds h1).elim,fun k e xs e' xs' _ c=>by (rw [h1] at c;cases c)⟩
  ·exact ⟨fun _=>Xe,fun _=>.inr rfl,fun l=>by (rw [h1] at l;cases l),fun _ t=>(t _ _ h1).elim,fun k e xs e' xs' _ c=>by (rw [h1] at c;cases c)⟩
 obtain ⟨X',f⟩:=TE s;refine ⟨X',fun i=>(f i).1,fun i=>(f i).2.1,fun i=>?_⟩;rcases ZcX y i with h1 | ⟨g',ds',h0,h1,m⟩ | ⟨j,q,h0,h1,p,m⟩
 ·exact (f i).2.2.1 (fun g ds e=>(Zal h1).2.2 g ds e) (fun j q e=>(Zal h1).2.1 j q e) X' rfl
 ·have n:=h i;rw [h0] at n;rw [h1];obtain ⟨u,v,x,H⟩:=n;refine ⟨u,v,x,fun k d b A l=>?_⟩;have C:=m d (Xo A);exact ⟨((f d).2.1 C).trans (H k d b A l).1,C⟩
 ·have n:=h i;rw [h0] at n;rw [h1];obtain ⟨e,xs,v,x⟩:=n;obtain ⟨e',xs'⟩:=p;obtain ⟨J,L,M⟩:=(f j).2.2.2 q e xs e' xs' v m;subst J;subst L;exact ⟨e',xs',m,by rw [M];exact x⟩
def ZgM {X X':Nat→Nat→Option Nat} (h:ZlZ X) (e:∀ i k,X' i k=X i k∨X' i k=Xe):ZlZ X':=by
 intro d k f g b a c;rcases e d k with e1 | e1
 ·rcases e f g with e2 | e2
  ·exact h d k f g b (e1.symm.trans a) (e2.symm.trans c)
  ·rw [e2] at c;cases c
 ·rw [e1] at a;cases a
def J2.stronger {P:Program} {f:FuncId} {u x:List AV} {res:AV} {outs:List AV} (h:J2 P f x res outs) (l:Wm P u x):J2 P f u res outs:=by
 refine ⟨h.1,fun w lim X c z m d g=>?_⟩;obtain ⟨X2,y,g3,A⟩:=ZdW m l
 have j:∀ i k b,X2 i k=Xa b→X i k=Xa b:=by
  intro i k b a;rcases y i k with e | e
  ·rw [← e];exact a
  ·rw [e] at a;cases a
 refine (h.2 w lim X2 c (by have:=ZfR l;have:=l.1;omega) A (ZgM d y) fun i k b a=>g i k b (j i k b a)).mono ?_;rintro e w' ⟨v,n,X',C,p,q,D,E,r,s⟩;refine ⟨v,n,X',C,p.wider fun b ⟨i,k,a⟩=>⟨i,k,j i k b a⟩,by rw [q,l.1],fun i=>by (rw [l.1];exact D i),E,fun i k b a=>?_,fun i G=>?_⟩
 ·obtain ⟨o,t⟩:=r i k b a;exact ⟨o,t.imp (fun ⟨i,k,h⟩=>⟨i,k,j i k b h⟩) id⟩
 ·obtain ⟨o,t⟩:=s i G;exact ⟨ZeK l o,by rw [t,g3 i (ZaE o)]⟩
def Ziy (ρ:Nat→V) (n:Nat) (l:List V):Prop:=∀ (j:Nat) (v:V),l[j]? = Xa v→ρ (n+j)=v
def Ziy.tail {ρ:Nat→V} {n:Nat} {v:V} {l:List V} (h:Ziy ρ n (v::l)):ρ n=v∧Ziy ρ (n+1) l:=
 ⟨h 0 v rfl,fun j u a=>by rw [show n+1+j=n+(j+1) by omega];exact h (j+1) u (by simpa using a)⟩
def Ziy.app {ρ:Nat→V} {n:Nat} {l b:List V} (h:Ziy ρ n (l++b)):Ziy ρ n l∧Ziy ρ (n+l.length) b:=
  ⟨fun j v a=>h j v (by rw [XH (Xx.1 a).1];exact a),
   fun j v a=>by
    rw [show n+l.length+j=n+(l.length+j) by omega];exact h _ v (by rw [XG (by omega)];simpa using a)⟩
def Ziy.bind (ρ:Nat→V) (n:Nat) (vs:List V):Ziy (bind ρ n vs) n vs:=by
 intro j v a;unfold AM.bind;rw [P3 (by omega),show n+j-n=j by omega,a];rfl
def vAt (us:List V) (j:Nat):V:=(us[j]?).getD (.i 0)
def Ki:Sh→V→AV
 | .int k, v => .val (.int k v.int)
 | .bool, v => .val (.bool v.bool)
 | .str, v => .val (.string v.str)
 | .slice s, v => .slice Xb s v.list
 | .own x e, v => .own x e v.list
def Jf:List Sh→List V→Nat→List AV
 | [], _, _ => []
 | s :: ss, us, j => Ki s (vAt us j) :: Jf ss us (j + 1)
def ZjF {s:Sh} (h:s.imm=Xc) (v:V):(Ki s v).isCell=Xc:=by cases s<;>simp [Sh.imm] at h<;>rfl
def VA (a b:List V) (v:V):vAt (a++v::b) a.length=v:=by simp [vAt]
def JJ:∀ (l:List Sh) (us:List V) (j:Nat),(Jf l us j).length=l.length
 | [], _, _ => rfl
 | _ :: ss, us, j => by simp [Jf, JJ ss us (j + 1)]
def Vf:∀ (l:List Sh) (us:List V) (j:Nat),l.all Sh.imm=Xc→∀ c∈Jf l us j,c.isCell=Xc
 | [], _, _, _ => by simp [Jf]
 | s :: ss, us, j, h => by
  rw [UV,Xk] at h;intro c a;rcases Xr.1 a with rfl | a
  ·exact ZjF h.1 _
  ·exact Vf ss us (j+1) h.2 c a
section
variable {P:Program} {ρ:Nat→V}
def Zei {s:Sh} {x:SC} {v:VE} (h:Zqz s x=Xa v):YV P (x.den ρ) (Ki s (v.den ρ)):=by
 unfold Zqz at h;split at h
 ·split at h
  ·simp only [Xf] at h;subst h;rename_i a;subst a;exact .same (.inl rfl)
  ·cases h
 ·simp only [Xf] at h;subst h;exact .same (.inl rfl)
 ·simp only [Xf] at h;subst h;exact .same (.inl rfl)
 ·split at h
  ·simp only [Xf] at h;subst h;rename_i a;subst a;exact .imm
  ·split at h
   ·simp only [Xf] at h;subst h;exact .immN
   ·cases h
 ·split at h
  ·simp only [Xf] at h;subst h;exact .give
  ·cases h
 ·cases h
def Zgy {l:LE} (h:l.isNil=Xc):l = .nil:=by cases l<;>first | rfl | cases h
def ZcZ {s:Sh} {x:Bool} {e:TypeId} {l:LE} {v:VE} (h:ZcI P s x e l=Xa v):YV P (.own x e (l.den ρ)) (Ki s (v.den ρ)):=by
 unfold ZcI at h;split at h
 ·split at h
  ·simp only [Xf] at h;subst h;rename_i a;obtain ⟨rfl,a⟩:=a;rcases a with rfl | a
   ·exact .same (.inr ⟨_,_,_,rfl⟩)
   ·have:=Zgy a;subst this;exact .ownN
  ·cases h
 ·split at h
  ·simp only [Xf] at h;subst h;rename_i a;obtain ⟨rfl,a⟩:=a;rcases a with rfl | a
   ·exact .own
   ·have:=Zgy a;subst this;exact .ownZ
  ·cases h
 ·cases h
def Zew:∀ (l:List Sh) (cs:List SC) (vs:List VE),Zhd l cs=Xa vs→vs.length=l.length∧cs.length=l.length∧∀ b a:List V,
  ∀ (i:Nat) (c f:AV),(cs.map (SC.den ρ))[i]? = Xa c→(Jf l (b++vs.map (VE.den ρ)++a) b.length)[i]? = Xa f→YV P c f
 | [], [], vs, h => by
  simp only [Zhd,Xf] at h;subst h;exact ⟨rfl,rfl,fun _ _ i c f h=>by simp at h⟩
 | [], _ :: _, _, h => by simp [Zhd] at h
 | _ :: _, [], _, h => by simp [Zhd] at h
 | s :: ss, c :: cs, us, h => by
  simp only [Zhd] at h;split at h
  ·rename_i v vs j g;simp only [Xf] at h;subst h;obtain ⟨k,m,n⟩:=Zew ss cs vs g;refine ⟨by simp [k],by simp [m],fun b a i o p e d=>?_⟩
   cases i with
   | zero =>
    simp only [Jf,Xn,XM,Xf] at e d;subst e;subst d;rw [XB,X8,VA];exact Zei j
   | succ i =>
    have:=n (b++[v.den ρ]) a i o p (by simpa using e);simp only [XB,X8,X9,XD,XO,Ui] at this;simp only [Jf,Xn,Uv,XB,X8] at d;exact this d
  ·cases h
def ZsJ {s:Sh} {x:BC} {v:VE} (h:Zx0 P s x=Xa v):YV P (x.den ρ) (Ki s (v.den ρ)):=by
 unfold Zx0 at h;split at h
 ·exact Zei h
 ·exact ZcZ h
 ·cases h
def Wa:∀ (l:List Sh) (cs:List BC) (vs:List VE),ZbW P l cs=Xa vs→vs.length=l.length∧cs.length=l.length∧∀ b a:List V,
  ∀ (i:Nat) (c f:AV),(cs.map (BC.den ρ))[i]? = Xa c→(Jf l (b++vs.map (VE.den ρ)++a) b.length)[i]? = Xa f→YV P c f
 | [], [], vs, h => by
  simp only [ZbW,Xf] at h;subst h;exact ⟨rfl,rfl,fun _ _ i c f h=>by simp at h⟩
 | [], _ :: _, _, h => by simp [ZbW] at h
 | _ :: _, [], _, h => by simp [ZbW] at h
 | s :: ss, c :: cs, us, h => by
  simp only [ZbW] at h;split at h
  ·rename_i v vs j g;simp only [Xf] at h;subst h;obtain ⟨k,m,n⟩:=Wa ss cs vs g;refine ⟨by simp [k],by simp [m],fun b a i o p e d=>?_⟩
   cases i with
   | zero =>
    simp only [Jf,Xn,XM,Xf] at e d;subst e;subst d;rw [XB,X8,VA];exact ZsJ j
   | succ i =>
    have:=n (b++[v.den ρ]) a i o p (by simpa using e);simp only [XB,X8,X9,XD,XO,Ui] at this;simp only [Jf,Xn,Uv,XB,X8] at d;exact this d
  ·cases h
end
def ZjY {s:Sh} (a:s.imm=Xc) {n:Nat} {ρ:Nat→V} {v:V} (h:ρ n=v):(YT s n).den ρ=Ki s v:=by
 subst h
 cases s<;>simp [Sh.imm] at a<;>rfl
def ZcO:∀ (l:List Sh) (n m:Nat) (ρ:Nat→V) (us:List V),l.all Sh.imm=Xc→(∀ j,j < l.length→ρ (n+j)=vAt us (m+j))→(Z9 l n).map (SC.den ρ)=Jf l us m
 | [], _, _, _, _, _, _ => rfl
 | s :: ss, n, m, ρ, us, hi, h => by
  rw [UV,Xk] at hi
  rw [Z9,Xn,Jf,ZjY hi.1 (show ρ n=vAt us m from h 0 (by simp)),ZcO ss (n+1) (m+1) ρ us hi.2 fun j a=>by
   have:=h (j+1) (by simp;omega);rw [show n+1+j=n+(j+1) by omega,show m+1+j=m+(j+1) by omega];exact this]
def ZoD {s:Sh} {n:Nat} {ρ:Nat→V} {v:V} (h:ρ n=v):(Zrc s n).den ρ=Ki s v:=by
 subst h
 cases s<;>rfl
def Za2:∀ (l:List Sh) (n m:Nat) (ρ:Nat→V) (us:List V),(∀ j,j < l.length→ρ (n+j)=vAt us (m+j))→(KI l n).map (BC.den ρ)=Jf l us m
 | [], _, _, _, _, _ => rfl
 | s :: ss, n, m, ρ, us, h => by
  rw [KI,Xn,Jf,ZoD (show ρ n=vAt us m from h 0 (by simp)),Za2 ss (n+1) (m+1) ρ us fun j a=>by
   have:=h (j+1) (by simp;omega);rw [show n+1+j=n+(j+1) by omega,show m+1+j=m+(j+1) by omega];exact this]
def Wf (h:HP) (us:List V) (j:Nat):AV:=
 match h with
 | .c s => Ki s (vAt us j)
 | .agg l => .agg (Jf l us j)
 | .box l => .box (Jf l us j)
 | .mref d k => .mref d k
 | .ptr d o => .ptr d o
 | .dead => .dead
 | .gbox l => .gbox (Jf l us j)
 | .clo g ds => .clo g ds
def HP.fine:HP→Bool
 | .agg l => l.all Sh.imm
 | _ => Xc
def Zl6 {h:HP} (e:h.fine=Xc) {n m:Nat} {ρ:Nat→V} {us:List V} (a:∀ j,j < h.n→ρ (n+j)=vAt us (m+j)):(ZnT h n).den ρ=Wf h us m:=by
 cases h with
 | c s =>
  have b:=a 0 (Nat.zero_lt_one);simp only [UN] at b
  cases s<;>simp only [ZnT,Wf,SV.den,YT,SC.den,IE.den,BE.den,SE.den,LE.den,b,Ki]
 | agg l => simp only [ZnT, Wf, SV.den, ZcO l n m ρ us e a]
 | box l => simp only [ZnT, Wf, SV.den, Za2 l n m ρ us a]
 | gbox l => simp only [ZnT, Wf, SV.den, Za2 l n m ρ us a]
 | clo g ds => rfl
 | mref d k => rfl
 | ptr d o => rfl
 | dead => rfl
def ZxD (h:HP) (x:AV):Prop:=(∃ d o,h = .ptr d o∧x = .ptr d o)∨(∃ d k,h = .mref d k∧x = .mref d k)∨∃ g ds,h = .clo g ds∧x = .clo g ds
def Znr {P:Program} {ρ:Nat→V} {h:HP} {x:SV} {vs:List VE} (a:Zi8 P h x=Xa vs):vs.length=h.n∧h.fine=Xc∧∀ c b:List V,
  ZxD h (x.den ρ)∨Y5 P (x.den ρ) (Wf h (c++vs.map (VE.den ρ)++b) c.length):=by
 unfold Zi8 at a;split at a
 ·cases hd:Zqz _ _ with
  | none => rw [hd] at a; cases a
  | some v =>
   rw [hd] at a;simp only [XA,Xf] at a;subst a;refine ⟨rfl,rfl,fun c b=>.inr ?_⟩;simp only [Wf,Xn,X5,XB,X8,X9,VA];exact .comp (.cell (Zei hd))
 ·cases hd:ZcI P _ _ _ _ with
  | none => rw [hd] at a; cases a
  | some v =>
   rw [hd] at a;simp only [XA,Xf] at a;subst a;refine ⟨rfl,rfl,fun c b=>.inr ?_⟩;simp only [Wf,Xn,X5,XB,X8,X9,VA];exact .comp (.cell (ZcZ hd))
 ·split at a
  ·rename_i i;obtain ⟨d,e,f⟩:=Zew (P:=P) (ρ:=ρ) _ _ _ a;exact ⟨d,i,fun c b=>.inr (.comp (.agg (by rw [Xi,e,JJ]) (Vf _ _ _ i) (f c b)))⟩
  ·cases a
 ·obtain ⟨d,e,f⟩:=Wa (P:=P) (ρ:=ρ) _ _ _ a;exact ⟨d,rfl,fun c b=>.inr (.box (by rw [Xi,e,JJ]) (f c b))⟩
 ·split at a
  ·rename_i g;simp only [Xf] at a;subst a;obtain ⟨rfl,rfl⟩:=g;exact ⟨rfl,rfl,fun _ _=>.inl (.inr (.inl ⟨_,_,rfl,rfl⟩))⟩
  ·cases a
 ·split at a
  ·rename_i g;simp only [Xf] at a;subst a;obtain ⟨rfl,rfl⟩:=g;exact ⟨rfl,rfl,fun _ _=>.inl (.inl ⟨_,_,rfl,rfl⟩)⟩
  ·cases a
 ·simp only [Xf] at a;subst a;exact ⟨rfl,rfl,fun _ _=>.inr .dead⟩
 ·obtain ⟨d,e,f⟩:=Wa (P:=P) (ρ:=ρ) _ _ _ a;exact ⟨d,rfl,fun c b=>.inr (.gbox (by rw [Xi,e,JJ]) (f c b))⟩
 ·split at a
  ·rename_i g;simp only [Xf] at a;subst a;obtain ⟨rfl,rfl⟩:=g;exact ⟨rfl,rfl,fun _ _=>.inl (.inr (.inr ⟨_,_,rfl,rfl⟩))⟩
  ·cases a
 ·cases a
def K7 {P:Program} {g:Nat→SV} {ρ:Nat→V} : ∀ (d:List (Nat×HP)) (n:Nat) (b:List VE) (c:List V),Y3 P g d=Xa b→c.length=n→
  (Jb d n).2=n+b.length∧(Jb d n).1.map (·.1)=d.map (·.1)∧∀ u∈(Jb d n).1,∃ h,(u.1,h)∈d∧∃ m,u.2=ZnT h m∧m+h.n≤n+b.length∧h.fine=Xc∧
   ∀ a:List V,ZxD h ((g u.1).den ρ)∨Y5 P ((g u.1).den ρ) (Wf h (c++b.map (VE.den ρ)++a) m)
 | [], n, b, c, h, hp => by
  simp only [Y3,Xf] at h;subst h;exact ⟨rfl,rfl,by simp [Jb]⟩
 | p :: r, n, b, c, h, hp => by
  simp only [Y3] at h;split at h
  ·rename_i v vs j i;simp only [Xf] at h;subst h;obtain ⟨e,k,l⟩:=Znr (P:=P) (ρ:=ρ) j;obtain ⟨o,q,g3⟩:=K7 r (n+p.2.n) vs (c++v.map (VE.den ρ)) i (by simp [hp,e]);refine ⟨by simp only [Jb,o,XD,e];omega,by simp only [Jb,Xn,q],fun u f=>?_⟩;simp only [Jb,Xr] at f;rcases f with rfl | f
   ·refine ⟨p.2,by simp,n,rfl,by simp only [XD,e];omega,k,fun a=>?_⟩;have:=l c (vs.map (VE.den ρ)++a);rw [hp] at this;simpa [XB] using this
   ·obtain ⟨h,s,m,t,y,w,x⟩:=g3 u f;refine ⟨h,by simp [s],m,t,by simp only [XD,e];omega,w,fun a=>?_⟩;have:=x a;simpa [XB] using this
  ·cases h
def Zdq:∀ (b:List (Nat×HP)) (n:Nat),n≤(Jb b n).2∧∀ u∈(Jb b n).1,u.2.bd (Jb b n).2
 | [], n => ⟨Xt _, by simp [Jb]⟩
 | p :: r, n => by
  obtain ⟨e,f⟩:=Zdq r (n+p.2.n);refine ⟨by simp only [Jb];omega,fun u a=>?_⟩;simp only [Jb,Xr] at a;rcases a with rfl | a
  ·have h:(ZnT p.2 n).bd (n+p.2.n):=by
    cases hp:p.2 with
    | c s => cases s <;> exact Ul n
    | agg l => exact Yb l n
    | box l => exact Yc l n
    | mref d k => trivial
    | ptr d o => trivial
    | dead => trivial
    | gbox l => exact Yc l n
    | clo g ds => trivial
   exact SV.bd_mono (by simpa [Jb] using e) _ h
  ·exact f u a
def Zq6 (P:Program) (σ a:Nat→AV) (d:Nat):Prop:=
 Y5 P (σ d) (a d)∨(∃ b o,σ d = .ptr b o∧a d = .ptr b o∧(∃ cs,a b = .box cs))∨(∃ b k,σ d = .mref b k∧a d = .mref b k∧∃ p,Zy (a b) k=Xa p)∨
  ∃ g ds,σ d = .clo g ds∧a d = .clo g ds∧∀ b∈ds,(a b).isB=Xc
def ZjS {P:Program} {x:AV} {e:TypeId} {xs:List (List AV)} (h:Y5 P x (.own Xc e xs)):x = .own Xc e xs∨xs = []:=by
 cases h with
 | comp h =>
  cases h with
  | cell h =>
   cases h with
   | same _ => exact .inl rfl
   | ownN => exact .inr rfl
   | give => exact .inr rfl
def Sim.head {c:Ctx} {σ a:Nat→AV} {M:Array Value} {w:World} {lim:Nat→Nat} {X:Nat→Nat→Option Nat} (h:Sim c σ M w lim X) (G:∀ d,Zq6 c.P σ a d) (H:∀ d,c.nt≤d→a d = .dead∨(a d).isG=Xc)
  (J:∀ d v,c.pin d=Xa v→∃ cs,a d = .box cs) (s:∀ d b,c.gpin d=Xa b→(a d).isG=Xc):∃ X',Sim c a M w lim X':=by
 have S:∀ d,(a d).isG=Xc→(σ d).isG=Xc:=by
  intro d j;rcases G d with n | ⟨u,o,_,f,_⟩ | ⟨u,k,_,f,_⟩ | ⟨g,ds,_,f,_⟩
  ·exact ZmC n j
  ·rw [f] at j;cases j
  ·rw [f] at j;cases j
  ·rw [f] at j;cases j
 have N:∀ d,∃ r:Nat→Option Nat,(∀ k,r k=X d k∨r k=Xe)∧((a d).isB=Xc→r 0=X d 0)∧(∀ k,(∃ p,Zy (σ d) k=Xa p)→(∃ p,Zy (a d) k=Xa p)→r k=X d k)∧
   (Y5 c.P (σ d) (a d)→∀ X':Nat→Nat→Option Nat,X' d=r→Z2 c.P w lim X' a d (a d) (M.getD d undef))∧(∀ e xs,σ d = .own Xc e xs→a d = .own Xc e xs→r=X d):=by
  intro d;have j:=h.rel d;by_cases hsame:∃ e xs,σ d = .own Xc e xs∧a d = .own Xc e xs
  ·obtain ⟨e,xs,l,f⟩:=hsame;refine ⟨X d,fun _=>.inl rfl,fun _=>rfl,fun _ _ _=>rfl,fun _ X' t=>?_,fun _ _ _ _=>rfl⟩;rw [l] at j;rw [f];show Jt c.P w lim Xc e xs _ (X' d 0);rw [t];exact j
  have A:∀ {r:Nat→Option Nat} (e:TypeId) (xs:List (List AV)),σ d = .own Xc e xs→a d = .own Xc e xs→r=X d:=fun e xs l f=>(hsame ⟨e,xs,l,f⟩).elim
  have C:∀ {y:AV},σ d=y→(∀ k,Zy y k=Xe)→∀ k,(∃ p,Zy (σ d) k=Xa p)→(∃ p,Zy (a d) k=Xa p)→(Xe:Option Nat)=X d k:=by
   rintro y T U k ⟨p,O⟩ _;rw [T,U k] at O
   cases O
  rcases G d with n | ⟨u,o,l,f,_⟩ | ⟨u,k,l,f,_⟩ | ⟨g,ds,l,f,_⟩
  ·obtain ⟨r,q,E,g4,g3⟩:=Zf5 j n;exact ⟨r,q,E,g4,fun _ X' t=>g3 X' a d t,A⟩
  ·exact ⟨fun _=>Xe,fun _=>.inr rfl,fun m=>by (rw [f] at m;cases m),C l (fun _=>rfl),fun n=>((Zal n).1 u o f).elim,A⟩
  ·exact ⟨fun _=>Xe,fun _=>.inr rfl,fun m=>by (rw [f] at m;cases m),C l (fun _=>rfl),fun n=>((Zal n).2.1 u k f).elim,A⟩
  ·exact ⟨fun _=>Xe,fun _=>.inr rfl,fun m=>by (rw [f] at m;cases m),C l (fun _=>rfl),fun n=>((Zal n).2.2 g ds f).elim,A⟩
 obtain ⟨X',t⟩:=TE N
 have D:∀ d k b,X' d k=Xa b→X d k=Xa b:=by
  intro d k b m;rcases (t d).1 k with e | e
  ·rw [← e];exact m
  ·rw [e] at m;cases m
 refine ⟨X',⟨fun d=>?_,h.size,H,fun d j=>h.ghost d (S d j),fun d k u W b l f=>h.dist d k u W b (D _ _ _ l) (D _ _ _ f),fun d k b m=>h.ours d k b (D _ _ _ m),h.frm,fun d v Q=>⟨(h.pin d v Q).1,J d v Q⟩,fun d e xs x=>?_,
  fun d b m=>⟨((t d).2.1 (ZaE (s d b m))).trans (h.gpin d b m).1,s d b m⟩⟩⟩
 rotate_left
 ·have n:Y5 c.P (σ d) (.own Xc e xs):=by
   rcases G d with n | ⟨_,_,_,f,_⟩ | ⟨_,_,_,f,_⟩ | ⟨_,_,_,f,_⟩
   ·rw [x] at n;exact n
   ·rw [x] at f;cases f
   ·rw [x] at f;cases f
   ·rw [x] at f;cases f
  rcases ZjS n with l | rfl
  ·rw [(t d).2.2.2.2 e xs l x];exact h.mp d e xs l
  ·intro _ _ _ _ _ _ _ _ _ _ z;cases z
 have j:=h.rel d;rcases G d with n | ⟨d2,o2,l,f,cs',z⟩ | ⟨d2,k2,l,f,p2,z⟩ | ⟨g,ds,l,f,z⟩
 ·exact (t d).2.2.2.1 n X' rfl
 ·rw [l] at j;obtain ⟨b,cs,q,E,g3⟩:=j;rw [f];exact ⟨b,cs',by rw [(t d2).2.1 (by rw [z];rfl),q],z,g3⟩
 ·rw [l] at j;obtain ⟨e,xs,q,E⟩:=j;rw [f];refine ⟨e,xs,?_,by rw [(t d2).2.2.1 k2 ⟨_,q⟩ ⟨_,z⟩];exact E⟩;rcases G d2 with n | ⟨d3,o3,q1,q2,_⟩ | ⟨d3,k3,q1,q2,_⟩ | ⟨g,ds,q1,q2,_⟩
  ·obtain ⟨Y,Z⟩:=Zg2 n q (e':=p2.1) (xs':=p2.2) z;rw [z,← Y,← Z]
  ·rw [q1] at q;cases q
  ·rw [q1] at q;cases q
  ·rw [q1] at q;cases q
 ·rw [l] at j;obtain ⟨bs,q,E,g3⟩:=j;rw [f];refine ⟨bs,q,E,fun i u b L m=>?_⟩;have R:=z u (Xo L);exact ⟨((t u).2.1 R).trans (g3 i u b L m).1,R⟩
def ZlH:∀ (b:List (Nat×HP)) (d:Nat) (h a:HP),(b.map (·.1)).Nodup→(d,h)∈b→(d,a)∈b→h=a
 | [], _, _, _, _, h, _ => by simp at h
 | p :: r, d, h, a, hn, h1, h2 => by
  rw [Xn,U1] at hn;rcases Xr.1 h1 with e1 | e1
  ·rcases Xr.1 h2 with e2 | e2
   ·rw [← e1] at e2;exact (Prod.mk.inj e2).2.symm
   ·exact (hn.1 (by rw [← e1];exact Xs.2 ⟨_,e2,rfl⟩)).elim
  ·rcases Xr.1 h2 with e2 | e2
   ·exact (hn.1 (by rw [← e2];exact Xs.2 ⟨_,e1,rfl⟩)).elim
   ·exact ZlH r d h a hn.2 e1 e2
def Zcn:∀ (us:List (Nat×AV)) (d:Nat) (x:AV),Za5 us d=Xa x→(d,x)∈us
 | [], d, x, h => by simp [Za5] at h
 | (e, y) :: us, d, x, h => by
  simp only [Za5] at h
  cases hl:Za5 us d with
  | some z =>
   rw [hl] at h;simp only [Xf] at h;subst h;exact UD _ (Zcn us d _ hl)
  | none =>
   rw [hl] at h;simp only at h;split at h
   ·rename_i a;simp only [Xf] at h;subst h;subst a;exact UX
   ·cases h
def ZjW {E:Env} {d:Nat} {h:HP} (a:h.place E d=Xc):d < E.top∧(h.isG=Xc∨d < E.nt):=by
 cases h<;>simp only [HP.place,Xk,P5] at a
 case gbox l=>exact ⟨a.2,.inl rfl⟩
 all_goals exact ⟨Yf a,.inr a⟩
def WN {E:Env} {c:List (Nat×HP)} (h:ZfO E c=Xc):(c.map (·.1)).Nodup∧(∀ p∈c,p.1 < E.top∧(p.2.isG=Xc∨p.1 < E.nt))∧((∀ d b o,(d,HP.ptr b o)∈c→∃ l:HP,l.isBox=Xc∧(b,l)∈c)∧∀ d b k,(d,HP.mref b k)∈c→∃ l:HP,l.isPl k=Xc∧(b,l)∈c)∧
  (∀ d∈E.pins,∃ l:HP,l.isBox=Xc∧(d,l)∈c)∧(∀ d g ds,(d,HP.clo g ds)∈c→∀ b∈ds,∃ l:HP,(l.isBox||l.isG)=Xc∧(b,l)∈c)∧∀ d,E.nt≤d→d < E.top→∃ l:HP,l.isG=Xc∧(d,l)∈c:=by
 have a:∀ (f:HP→Bool) (d:Nat),(c.any fun q=>decide (q.1=d)&&f q.2)=Xc→∃ l:HP,f l=Xc∧(d,l)∈c:=by
  intro f d e;rw [Ut] at e;obtain ⟨q,t,e⟩:=e;obtain ⟨w,x⟩:=q;simp only [Xk,P5] at e;obtain ⟨rfl,e⟩:=e;exact ⟨_,e,t⟩
 simp only [ZfO,Xk] at h;obtain ⟨⟨⟨u,i⟩,n⟩,r⟩:=h;rw [XE] at i n r;refine ⟨W4 _ u,fun p v=>?_,⟨fun d b o j=>?_,fun d b k j=>?_⟩,fun d e=>a HP.isBox d (n d e),fun d g ds j b m=>?_,fun d e m=>?_⟩
 ·have:=i p v;simp only [Xk] at this;exact ZjW this.1
 ·have:=i _ j;simp only [Xk] at this;exact a HP.isBox b this.2
 ·have:=i _ j;simp only [Xk] at this;exact a (fun h=>h.isPl k) b this.2
 ·have:=i _ j;simp only [Xk] at this;have s:=this.2;rw [XE] at s;exact a (fun h=>h.isBox||h.isG) b (s b m)
 ·have:=r (d-E.nt) (List.mem_range.2 (by have:E.top=E.nt+E.ng:=rfl;omega));rw [show E.nt+(d-E.nt)=d by omega] at this;exact a HP.isG d this
def ZsQ {P:Program} {E:Env} (n:E.top≤1024) {b:List (Nat×HP)} (o:ZfO E b=Xc) {s:Tr} {ρ ρ0:Nat→V} {a:List VE} (w:Y3 P (gE E s) b=Xa a) :
  (∀ d,d∉b.map (·.1)→Jk E (JO (Jb b 0).1 (.leaf .dead)) (bind ρ0 0 (a.map (VE.den ρ))) d = .dead)∧
  ∀ d h,(d,h)∈b→∃ m,Jk E (JO (Jb b 0).1 (.leaf .dead)) (bind ρ0 0 (a.map (VE.den ρ))) d=Wf h (a.map (VE.den ρ)) m∧
   (ZxD h (Jk E s ρ d)∨Y5 P (Jk E s ρ d) (Wf h (a.map (VE.den ρ)) m)):=by
 obtain ⟨y,z,L,M,N,O⟩:=WN o;obtain ⟨Q,t,A⟩:=K7 (P:=P) (g:=gE E s) (ρ:=ρ) b 0 a [] w rfl
 have C:VO E (Jb b 0).1:=by
  unfold VO;rw [XE];intro u q;have k:u.1∈b.map (·.1):=by rw [← t];exact Xs.2 ⟨u,q,rfl⟩
  obtain ⟨p,D,l⟩:=Xs.1 k;have:=(z p D).1;rw [l] at this;simpa using this
 have e:∀ d,Jk E (.leaf .dead) (bind ρ0 0 (a.map (VE.den ρ))) d = .dead:=by
  intro d;simp only [Jk,gE];split<;>rfl
 have c:((Jb b 0).1.map fun u=>(u.1,u.2.den (bind ρ0 0 (a.map (VE.den ρ))))).map (·.1)=b.map (·.1):=by rw [Uw];exact t
 rw [Ya n _ _ _ C];refine ⟨fun d G=>?_,fun d h k=>?_⟩
 ·rw [JK,Y8 _ d (by rw [c];exact G),e];rfl
 ·obtain ⟨x,v⟩:=VY ((Jb b 0).1.map fun u=>(u.1,u.2.den (bind ρ0 0 (a.map (VE.den ρ))))) d (by rw [c];exact Xs.2 ⟨_,k,rfl⟩);obtain ⟨u,q,l⟩:=Xs.1 (Zcn _ _ _ v);simp only [Xw] at l;obtain ⟨rfl,rfl⟩:=l;obtain ⟨r,H,m,J,g3,g4,g5⟩:=A u q;have:r=h:=ZlH b u.1 r h y H k;subst this
  have f:u.2.den (bind ρ0 0 (a.map (VE.den ρ)))=Wf r (a.map (VE.den ρ)) m:=by
   rw [J];refine Zl6 g4 fun j S=>?_;have i:m+j < (a.map (VE.den ρ)).length:=by rw [Xi];omega
   have:=Ziy.bind ρ0 0 (a.map (VE.den ρ)) (m+j) _ (Xm i);rw [XW] at this;rw [this,vAt,Xm i];rfl
  refine ⟨m,?_,?_⟩
  ·rw [JK,v,← f];rfl
  ·have:=g5 [];simp only [X9,UG] at this;exact this
def ZcL:∀ (l:List Sh) (us:List V) (j k:Nat) (s:Sh),l[k]? = Xa s→(Jf l us j)[k]? = Xa (Ki s (vAt us (j+k)))
 | [], _, _, _, _, h => by simp at h
 | t :: ts, us, j, 0, s, h => by
  simp only [XM,Xf] at h;subst h;rfl
 | t :: ts, us, j, k + 1, s, h => by
  have:=ZcL ts us (j+1) k s (by simpa using h);rw [show j+1+k=j+(k+1) by omega] at this;simpa [Jf] using this
def Zip {h:HP} {k:Nat} (a:h.isPl k=Xc) (us:List V) (m:Nat):∃ p,Zy (Wf h us m) k=Xa p:=by
 unfold HP.isPl at a;split at a
 ·exact ⟨_,rfl⟩
 ·rename_i l k;split at a
  ·rename_i e b;have:=ZcL l us m k _ b;refine ⟨(e,(vAt us (m+k)).list),?_⟩;simp only [Wf,Zy,this,Ki]
  ·cases a
 ·rename_i l k;split at a
  ·rename_i e b;have:=ZcL l us m k _ b;refine ⟨(e,(vAt us (m+k)).list),?_⟩;simp only [Wf,Zy,this,Ki]
  ·cases a
 ·cases a
def Zjr {P:Program} {E:Env} (C:E.top≤1024) {c:Ctx} (D:c.P=P) (N:c.nt=E.nt) (u:∀ d v,c.pin d=Xa v→d∈E.pins) (r:∀ d b,c.gpin d=Xa b→E.nt≤d∧d < E.top) {n:List (Nat×HP)} (x:ZfO E n=Xc) {s:Tr} {ρ:Nat→V} (ρ0:Nat→V) {q:List VE}
  (O:Y3 P (gE E s) n=Xa q) {J:Array Value} {w:World} {lim:Nat→Nat} {X:Nat→Nat→Option Nat} (y:Sim c (Jk E s ρ) J w lim X) :
  ∃ X',Sim c (Jk E (JO (Jb n 0).1 (.leaf .dead)) (bind ρ0 0 (q.map (VE.den ρ)))) J w lim X':=by
 obtain ⟨k1,Q,L,S,T,U⟩:=WN x;obtain ⟨M,A⟩:=ZsQ (P:=P) C x (ρ0:=ρ0) (ρ:=ρ) O
 have h:∀ d (l:HP),l.isBox=Xc→(d,l)∈n→∃ cs,Jk E (JO (Jb n 0).1 (.leaf .dead)) (bind ρ0 0 (q.map (VE.den ρ))) d = .box cs:=by
  intro d l e a;obtain ⟨m,z,_⟩:=A d _ a
  cases l<;>simp [HP.isBox] at e<;>exact ⟨_,z⟩
 have t:∀ d (l:HP),l.isG=Xc→(d,l)∈n→(Jk E (JO (Jb n 0).1 (.leaf .dead)) (bind ρ0 0 (q.map (VE.den ρ))) d).isG=Xc:=by
  intro d l e a;obtain ⟨m,z,_⟩:=A d _ a;rw [z]
  cases l<;>simp [HP.isG] at e<;>rfl
 refine y.head (fun d=>?_) (fun d hd=>?_) (fun d v i=>?_) fun d b i=>?_
 ·by_cases a:d∈n.map (·.1)
  ·obtain ⟨p,i,rfl⟩:=Xs.1 a;obtain ⟨m,z,f⟩:=A p.1 p.2 i;unfold Zq6;rw [z,D];rcases f with (⟨j,o,f,g3⟩ | ⟨j,k,f,g3⟩ | ⟨g,ds,f,g3⟩) | f
   ·obtain ⟨l,e,a⟩:=L.1 p.1 j o (by rw [← f];exact i);exact .inr (.inl ⟨j,o,g3,by rw [f];rfl,h j l e a⟩)
   ·obtain ⟨l,e,a⟩:=L.2 p.1 j k (by rw [← f];exact i);obtain ⟨m',W,_⟩:=A j l a;exact .inr (.inr (.inl ⟨j,k,g3,by rw [f];rfl,by rw [W];exact Zip e _ _⟩))
   ·refine .inr (.inr (.inr ⟨g,ds,g3,by rw [f];rfl,fun j G=>?_⟩));obtain ⟨l,e,a⟩:=T p.1 g ds (by rw [← f];exact i) j G;rw [XX] at e;rcases e with e | e
    ·obtain ⟨cs,H⟩:=h j l e a;rw [H];rfl
    ·exact ZaE (t j l e a)
   ·exact .inl f
  ·unfold Zq6;rw [M d a];exact .inl .dead
 ·by_cases a:d∈n.map (·.1)
  ·obtain ⟨p,i,rfl⟩:=Xs.1 a;rcases (Q p i).2 with h3 | h3
   ·exact .inr (t p.1 p.2 h3 i)
   ·omega
  ·exact .inl (M d a)
 ·obtain ⟨l,e,a⟩:=S d (u d v i);exact h d l e a
 ·obtain ⟨Y,Z⟩:=r d b i;obtain ⟨l,e,a⟩:=U d Y Z;exact t d l e a
def ZgF {ops:Array Oper} {x a d:Nat} {T:TypeId} {c:Bool} (h:Zh2 ops=Xa (x,a,d,T,c)) :
  ∃ o p U,ops.toList = [o,p]∧o.guard=Xe∧p.guard=Xe∧o.op = .move (.tmp x)∧o.dst=Xa a∧p.op = .binOp (if c=Xc then .neq else .eql) T (.tmp a) (.const (.slice Xe 0 0)) U∧p.dst=Xa d:=by
 unfold Zh2 at h;split at h
 ·rename_i o p b;split at h
  ·rename_i e;simp only [Option.isNone_iff_eq_none] at e;split at h
   ·rename_i f g i j;split at h
    ·rename_i k;subst k;simp only [Xf,Xw] at h;obtain ⟨rfl,rfl,rfl,rfl,rfl⟩:=h;exact ⟨o,p,_,b,e.1,e.2,f,g,by simpa using i,j⟩
    ·cases h
   ·rename_i f g i j;split at h
    ·rename_i k;subst k;simp only [Xf,Xw] at h;obtain ⟨rfl,rfl,rfl,rfl,rfl⟩:=h;exact ⟨o,p,_,b,e.1,e.2,f,g,by simpa using i,j⟩
    ·cases h
   ·cases h
  ·cases h
 ·cases h
def Zdm {ops:Array Oper} {x i a b c:Nat} {T:TypeId} (h:Zb1 ops=Xa (x,i,a,b,c,T)) :
  ∃ o p q r,ops.toList = [o,p,q,r]∧o.guard=Xe∧p.guard=Xe∧q.guard=Xe∧r.guard=Xe∧o.op = .move (.tmp x)∧o.dst=Xa a∧p.op = .move (.tmp i)∧p.dst=Xa b∧
   q.op = .slice T (.tmp a) (Xa (.tmp b)) Xe Xe∧q.dst=Xa c∧(∃ cl,r.op = .call cl∧cl.callee = .builtin .clear∧cl.args = #[.tmp c]∧cl.argTypes = #[T])∧r.dst=Xe:=by
 unfold Zb1 at h;split at h
 case h_2=>cases h
 rename_i o p q r d;split at h
 case isFalse=>cases h
 rename_i e;simp only [Option.isNone_iff_eq_none] at e;split at h
 case h_2=>cases h
 rename_i J L M b' j k l m;split at h
 case h_2=>cases h
 rename_i T' n s N cl t u v w;split at h
 case h_2=>cases h
 rename_i y T'' z f g;split at h
 case isFalse=>cases h
 rename_i A;obtain ⟨C,D,G,H⟩:=A;subst C D G H;simp only [Xf,Xw] at h;obtain ⟨rfl,rfl,rfl,rfl,rfl,rfl⟩:=h;exact ⟨o,p,q,r,d,e.1,e.2.1,e.2.2.1,e.2.2.2,j,k,l,m,t,u,⟨cl,v,z,by rw [← f,U4],by rw [← g,U4]⟩,w⟩
def Zks {P:Program} {w:World} {lim:Nat→Nat} {X:Nat→Nat→Option Nat} {g:Nat→SV} {d:Nat} {x:SV} {l:LE} {ρ:Nat→V} {v:Value} (i:Zlu P g x=Xa l) (h:Z2 P w lim X (fun d=>(g d).den ρ) d (x.den ρ) v) :
  ∃ a k cap,v = .slice a k cap∧(a.isNone=Xc→l.den ρ = []):=by
 have o:∀ f s,Rep w lim (.slice f s (l.den ρ)) v→∃ a k cap,v = .slice a k cap∧(a.isNone=Xc→l.den ρ = []):=by
  intro f s A
  have u:∀ y,Rep w lim y v→y = .slice f s (l.den ρ)→∃ a k cap,v = .slice a k cap∧(a.isNone=Xc→l.den ρ = []):=by
   intro y C j
   cases C with
   | sliceN => injection j with _ _ t; exact ⟨Xe, 0, 0, rfl, fun _ => t.symm⟩
   | sliceE _ => injection j with _ _ t; exact ⟨_, _, _, rfl, fun _ => t.symm⟩
   | sliceC _ _ _ _ _ _ _ _ => exact ⟨_, _, _, rfl, fun h => by cases h⟩
   | val _ => cases j
   | agg _ _ _ => cases j
  exact u _ A rfl
 unfold Zlu at i;split at i
 ·simp only [Xf] at i;subst i;exact o _ _ h
 ·split at i
  case isFalse=>cases i
  rename_i m;simp only [Xf] at i;subst i;rcases Jt.sliceV (show Jt P w lim _ _ _ v (X d 0) from h) with ⟨_,r,c | ⟨a,c⟩⟩ | ⟨b,arr,cap,_,_,_,c⟩ | ⟨c,_⟩
  ·exact ⟨Xe,0,0,c,fun _=>Uh r⟩
  ·exact ⟨_,_,_,c,fun h=>by cases h⟩
  ·exact ⟨_,_,_,c,fun h=>by cases h⟩
  ·rw [m] at c;cases c
 ·rename_i z q
  cases hp:JD (g z) q with
  | none => rw [hp] at i; cases i
  | some p =>
   rw [hp] at i;dsimp only at i;split at i
   case isFalse=>cases i
   rename_i m;simp only [Xf] at i;subst i;obtain ⟨e,xs,r,c⟩:=h;have t:Zy ((g z).den ρ) q=Xa (p.1,p.2.den ρ):=Jn ρ hp;have n:Zy ((g z).den ρ) q=Xa (e,xs):=r;rw [t] at n;simp only [Xf,Xw] at n;obtain ⟨D,rfl⟩:=n;rw [D] at m;rcases c with ⟨_,r,c | ⟨a,c⟩⟩ | ⟨b,arr,cap,_,_,_,c⟩ | ⟨c,_⟩
   ·exact ⟨Xe,0,0,c,fun _=>Uh r⟩
   ·exact ⟨_,_,_,c,fun h=>by cases h⟩
   ·exact ⟨_,_,_,c,fun h=>by cases h⟩
   ·rw [m] at c;cases c
 ·cases i
def Sim.refit {c:Ctx} {σ a:Nat→AV} {k:Array Value} {w:World} {lim f:Nat→Nat} {X:Nat→Nat→Option Nat} {S:Nat→Prop} (h:Sim c σ k w lim X) (p:Jc w lim w f S) (q:∀ b,S b→c.A b∨c.w0.heap.size≤b)
  (g:∀ i,Z2 c.P w f X a i (a i) (k.getD i undef)) (j:∀ i,c.nt≤i→a i = .dead∨(a i).isG=Xc) (o:∀ i,(a i).isG=(σ i).isG) (r:∀ i cs,σ i = .box cs→∃ l,a i = .box l) (hmp:∀ d e xs,a d = .own Xc e xs→Zgi c.P w f e xs (X d)):Sim c a k w f X where
 mp:=hmp
 rel:=g
 size:=h.size
 out:=j
 ghost d hd:=h.ghost d (by rw [← o];exact hd)
 dist:=h.dist
 ours:=h.ours
 frm:=h.frm.step p q
 pin d v hv:=by
  obtain ⟨m,cs,n⟩:=h.pin d v hv;exact ⟨m,r d cs n⟩
 gpin d b hb:=by
  obtain ⟨m,n⟩:=h.gpin d b hb;exact ⟨m,by rw [o];exact n⟩
def Sim.freeze {c:Ctx} {σ:Nat→AV} {tm:Array Value} {w:World} {lim:Nat→Nat} {X:Nat→Nat→Option Nat} (h:Sim c σ tm w lim X) {d q:Nat} {e:TypeId} {xs:List (List AV)} {us:List (Nat×AV)} (hdn:(σ d).isG=Xb) (hp:Zy (σ d) q=Xa (e,xs))
  (hs0:c.P.cellsOf e≠0) (hnm:Zv c.P e=Xb) (h1:∀ u∈us,u.1≠d∧((σ u.1 = .mref d q∧u.2 = .slice Xb (c.P.cellsOf e) xs)∨((∃ o,σ u.1 = .eref d q o)∧u.2 = .dead))) (h2:∀ i,Jz (σ i) d q→i∈us.map (·.1)) :
  ∃ lim',Sim c (JV (upd σ d (ZN (σ d) q Xb e xs)) us) tm w lim' X:=by
 have hnG:∀ cs,σ d≠.gbox cs:=fun cs he=>by rw [he] at hdn;cases hdn
 obtain ⟨v0,ho⟩:=VJ h hp;refine ⟨fun b=>if X d q=Xa b then xs.length*c.P.cellsOf e else lim b,?_⟩
 have hlim0:∀ b,X d q=Xa b→lim b=0:=by
  intro b hb;rw [hb] at ho;obtain ⟨_,_,_,_,g,_⟩:=VF ho (.inl hnm);exact g
 have hw:Jc w lim w (fun b=>if X d q=Xa b then xs.length*c.P.cellsOf e else lim b) (fun b=>X d q=Xa b):=by
  refine ⟨rfl,rfl,rfl,Xt _,fun _ _=>rfl,fun b _ hb=>⟨rfl,P3 hb⟩,fun b _=>⟨?_,fun _ _ _ hu=>hu⟩⟩;show lim b≤if X d q=Xa b then xs.length*c.P.cellsOf e else lim b;split
  ·rename_i hb;rw [hlim0 b hb];exact X7 _
  ·exact Xt _
 have hnew:∀ v,Jt c.P w lim Xc e xs v (X d q)→Jt c.P w (fun b=>if X d q=Xa b then xs.length*c.P.cellsOf e else lim b) Xb e xs v (X d q):=by
  intro v hv;rcases hv.noMap hnm with ⟨ws,g1,g2,g3,g4,g5,g6⟩ | hv
  ·refine .inl ⟨ws,g1,g2,fun b hb=>?_,g4,g5,fun j z u hz hu=>(g6 j z u hz hu).mono hw.ext⟩;show (if X d q=Xa b then xs.length*c.P.cellsOf e else lim b)=_;rw [P4 hb,P3 (by simp),g1.1]
  ·exact .inr (.inl hv)
 have hkept:∀ i k b,(i≠d∨k≠q)→X i k=Xa b→ZpT w lim w (fun b=>if X d q=Xa b then xs.length*c.P.cellsOf e else lim b) b:=by
  intro i k b hik hb;refine ⟨rfl,P3 fun hb'=>?_⟩;obtain ⟨e1,e2⟩:=h.dist i k d q b hb hb';exact hik.elim (fun h=>h e1) fun h=>h e2
 have hdu:d∉us.map (·.1):=by
  intro hm;obtain ⟨u,hu,rfl⟩:=Xs.1 hm;exact (h1 u hu).1 rfl
 -- what stands where
 have hat:∀ i,i≠d→(i∉us.map (·.1)∧JV (upd σ d (ZN (σ d) q Xb e xs)) us i=σ i)∨
   (σ i = .mref d q∧JV (upd σ d (ZN (σ d) q Xb e xs)) us i = .slice Xb (c.P.cellsOf e) xs)∨((∃ o,σ i = .eref d q o)∧JV (upd σ d (ZN (σ d) q Xb e xs)) us i = .dead):=by
  intro i hi;rw [JK];by_cases hm:i∈us.map (·.1)
  ·obtain ⟨x,hx⟩:=VY us i hm;rw [hx];rcases (h1 _ (Zcn us i x hx)).2 with ⟨g1,g2⟩ | ⟨g1,g2⟩
   ·exact .inr (.inl ⟨g1,g2⟩)
   ·exact .inr (.inr ⟨g1,g2⟩)
  ·rw [Y8 us i hm];exact .inl ⟨hm,Zp _ _ hi⟩
 have hatd:JV (upd σ d (ZN (σ d) q Xb e xs)) us d=ZN (σ d) q Xb e xs:=by
  rw [JK,Y8 us d hdu];exact Jl _ _ _
 have hdG:(ZN (σ d) q Xb e xs).isG=Xb∧(σ d).isG=Xb:=by
  rcases ZI hp with ⟨g1,rfl⟩ | ⟨cs,k,g1,rfl,_⟩ | ⟨cs,k,g1,rfl,_⟩
  case inr.inr=>exact (hnG _ g1).elim
  all_goals rw [g1];exact ⟨rfl,rfl⟩
 have hdB:∀ cs,σ d = .box cs→∃ cs',ZN (σ d) q Xb e xs = .box cs':=by
  intro cs hcs;rcases ZI hp with ⟨g1,rfl⟩ | ⟨cs',k,g1,rfl,_⟩ | ⟨cs,k,g1,rfl,_⟩
  case inr.inr=>exact (hnG _ g1).elim
  ·rw [g1] at hcs;cases hcs
  ·rw [g1];exact ⟨_,rfl⟩
 have hGall:∀ i,(JV (upd σ d (ZN (σ d) q Xb e xs)) us i).isG=(σ i).isG:=by
  intro i;by_cases hi:i=d
  ·subst hi;rw [hatd,hdG.1,hdG.2]
  ·rcases hat i hi with ⟨_,g⟩ | ⟨g,g'⟩ | ⟨⟨o,g⟩,g'⟩
   ·rw [g]
   ·rw [g,g'];rfl
   ·rw [g,g'];rfl
 have hBall:∀ i cs,σ i = .box cs→∃ cs',JV (upd σ d (ZN (σ d) q Xb e xs)) us i = .box cs':=by
  intro i cs hcs;by_cases hi:i=d
  ·subst hi;rw [hatd];exact hdB cs hcs
  ·rcases hat i hi with ⟨_,g⟩ | ⟨g,g'⟩ | ⟨⟨o,g⟩,g'⟩
   ·exact ⟨cs,g.trans hcs⟩
   ·rw [g] at hcs;cases hcs
   ·rw [g] at hcs;cases hcs
 have hmp:∀ i e1 xs1,JV (upd σ d (ZN (σ d) q Xb e xs)) us i = .own Xc e1 xs1→Zgi c.P w (fun b=>if X d q=Xa b then xs.length*c.P.cellsOf e else lim b) e1 xs1 (X i):=by
  intro i e1 xs1 he;by_cases hi:i=d
  ·subst hi;rw [hatd] at he;rcases ZI hp with ⟨g1,rfl⟩ | ⟨cs,k,g1,rfl,_⟩ | ⟨cs,k,g1,rfl,_⟩
   ·rw [g1] at he;simp [ZN] at he
   ·rw [g1] at he;simp [ZN] at he
   ·exact (hnG _ g1).elim
  ·rcases hat i hi with ⟨_,g⟩ | ⟨_,g'⟩ | ⟨_,g'⟩
   ·rw [g] at he;exact (h.mp i e1 xs1 he).mono hw.ext fun k b hb=>hkept i k b (.inl hi) hb
   ·rw [g'] at he;cases he
   ·rw [g'] at he;cases he
 refine h.refit hw (fun b hb=>(h.ours d q b hb).2) (fun i=>?_) (fun i hi=>?_) hGall hBall hmp
 ·by_cases hi:i=d
  ·subst hi;rw [hatd];have hr:=h.rel i;rcases ZI hp with ⟨g1,rfl⟩ | ⟨cs,k,g1,rfl,g2⟩ | ⟨cs,k,g1,rfl,_⟩
   case inr.inr=>exact (hnG _ g1).elim
   ·rw [g1] at hr ⊢;exact hnew _ hr
   ·rw [g1] at hr ⊢;obtain ⟨b,arr,t,k1,k2,k3,k4,k5,k6,k7⟩:=(show ZK c.P w lim (X i) cs _ from hr);refine ⟨b,arr,t,k1,k2,k3,by rw [TD];exact k4,((hkept i 0 b (.inr (by omega)) k1).2).trans k5,fun x hx=>?_,fun j x u hx hu=>?_⟩
    ·rcases UR hx with hx | hx
     ·exact k6 x hx
     ·exact .inr (.inl ⟨_,_,_,hx⟩)
    ·by_cases hj:j=k
     ·subst hj;rw [List.getElem?_set_self (Xx.1 g2).1] at hx;simp only [Xf] at hx;subst hx;exact hnew u (k7 j _ u g2 hu)
     ·rw [UI (fun h=>hj h.symm)] at hx;exact (k7 j x u hx hu).mono hw.ext fun b' hb'=>hkept i (j+1) b' (.inr (by omega)) hb'
  ·rcases hat i hi with ⟨hm,g⟩ | ⟨g,g'⟩ | ⟨⟨o,g⟩,g'⟩
   ·rw [g];have hr:=(h.rel i).mono hw.ext (fun k b hb=>hkept i k b (.inl hi) hb) fun d' k b _ _=>.of rfl;refine hr.chg rfl (fun d' cs hd'=>⟨hBall d' cs hd',rfl⟩) (fun d' hd'=>⟨by rw [hGall];exact hd',rfl⟩) fun d' k hrf=>⟨?_,rfl⟩;by_cases hdd:d'=d
    ·subst hdd;rw [hatd];have hkq:k≠q:=fun he=>hm (h2 i (he ▸ hrf));intro e' ys hy;rcases ZI hy with ⟨m1,rfl⟩ | ⟨cs,k',m1,rfl,m2⟩ | ⟨_,_,m1,_⟩
     case inr.inr=>exact (hnG _ m1).elim
     ·rcases ZI hp with ⟨_,h0⟩ | ⟨_,_,h0,_⟩ | ⟨_,_,h0,_⟩
      case inr.inr=>exact (hnG _ h0).elim
      ·exact (hkq h0.symm).elim
      ·rw [m1] at h0;cases h0
     ·rcases ZI hp with ⟨h0,_⟩ | ⟨cs2,q',h0,rfl,_⟩ | ⟨_,_,h0,_⟩
      case inr.inr=>exact (hnG _ h0).elim
      ·rw [m1] at h0;cases h0
      ·refine ⟨ys,?_,rfl⟩;rw [m1];simp only [ZN,Zy];rw [UI (by omega),m2]
    ·rcases hat d' hdd with ⟨_,m⟩ | ⟨m,m'⟩ | ⟨⟨o,m⟩,m'⟩
     ·rw [m];exact Wg.refl _ _
     ·intro e' ys hy;rw [m] at hy;cases hy
     ·intro e' ys hy;rw [m] at hy;cases hy
   ·rw [g'];have hr:=h.rel i;rw [g] at hr;obtain ⟨e',xs',k1,k2⟩:=hr;rw [hp] at k1;simp only [Xf,Xw] at k1;obtain ⟨rfl,rfl⟩:=k1;show Rep w _ _ _;rcases k2 with ⟨_,k2,k3 | ⟨a,k3⟩⟩ | ⟨b,arr,cap,k2,k3,k4,k5⟩ | ⟨k2,_⟩
    rotate_right
    ·rw [hnm] at k2;cases k2
    ·have:xs = []:=Uh k2;subst this;rw [k3];exact .sliceN
    ·have:xs = []:=Uh k2;subst this;rw [k3];exact .sliceE fun h=>by cases h
    ·have ho':=ho;rw [k2] at ho';obtain ⟨arr0,cap0,m1,m2,_,_,_,m6,_⟩:=VF ho' (.inl hnm);rw [k3] at m2;simp only [Xf,Obj.cells.injEq,and_true] at m2;subst m2;have hcap:cap=cap0:=Nat.eq_of_mul_eq_mul_right (by omega) (k4.symm.trans m6);subst hcap;rw [k5,← m1];exact Jt.rep (hnew v0 ho) Xb rfl
   ·rw [g'];trivial
 ·by_cases hid:i=d
  ·subst hid;rcases h.out i hi with h0 | h0
   ·rw [h0] at hp;cases hp
   ·rw [hdG.2] at h0;cases h0
  ·rcases hat i hid with ⟨_,g⟩ | ⟨g,_⟩ | ⟨⟨o,g⟩,_⟩
   ·rw [g];exact h.out i hi
   ·rcases h.out i hi with h0 | h0<;>rw [g] at h0<;>cases h0
   ·rcases h.out i hi with h0 | h0<;>rw [g] at h0<;>cases h0
def YB {P:Program} {g:Nat→SV} {d q:Nat} {e:TypeId} {l:LE} : ∀ (n:Nat) (u:Nat×SV),u∈KV P g d q e l n↔u.1 < n∧((g u.1 = .mref d q∧u.2 = .c (.slice Xb (P.cellsOf e) l))∨((∃ i s o,g u.1 = .eref d q i s o)∧u.2 = .dead))
 | 0, u => by simp [KV]
 | n + 1, u => by
  have ih:=YB (P:=P) (g:=g) (d:=d) (q:=q) (e:=e) (l:=l) n u;have r:∀ {p:Prop},(u.1 < n∧p)→(u.1 < n+1∧p):=fun h=>⟨by omega,h.2⟩;simp only [KV];split
  ·rename_i v w j;split
   ·rename_i k;obtain ⟨rfl,rfl⟩:=k;rw [Xr,ih];constructor
    ·rintro (rfl | h)
     ·exact ⟨Ul n,.inl ⟨j,rfl⟩⟩
     ·exact r h
    ·rintro ⟨t,f⟩;by_cases hn:u.1=n
     ·left;obtain ⟨a,b⟩:=u;simp only at hn f;subst hn;rcases f with ⟨_,f⟩ | ⟨⟨_,_,_,f⟩,_⟩
      ·rw [f]
      ·rw [j] at f;cases f
     ·exact .inr ⟨by omega,f⟩
   ·rename_i k;rw [ih];refine ⟨r,fun ⟨t,f⟩=>⟨?_,f⟩⟩;by_cases hn:u.1=n
    ·rw [hn,j] at f;rcases f with ⟨f,_⟩ | ⟨⟨_,_,_,f⟩,_⟩
     ·cases f;exact (k ⟨rfl,rfl⟩).elim
     ·cases f
    ·omega
  ·rename_i v w i s o j;split
   ·rename_i k;obtain ⟨rfl,rfl⟩:=k;rw [Xr,ih];constructor
    ·rintro (rfl | h)
     ·exact ⟨Ul n,.inr ⟨⟨_,_,_,j⟩,rfl⟩⟩
     ·exact r h
    ·rintro ⟨t,f⟩;by_cases hn:u.1=n
     ·left;obtain ⟨a,b⟩:=u;simp only at hn f;subst hn;rcases f with ⟨f,_⟩ | ⟨_,f⟩
      ·rw [j] at f;cases f
      ·rw [f]
     ·exact .inr ⟨by omega,f⟩
   ·rename_i k;rw [ih];refine ⟨r,fun ⟨t,f⟩=>⟨?_,f⟩⟩;by_cases hn:u.1=n
    ·rw [hn,j] at f;rcases f with ⟨f,_⟩ | ⟨⟨_,_,_,f⟩,_⟩
     ·cases f
     ·cases f;exact (k ⟨rfl,rfl⟩).elim
    ·omega
  ·rename_i t f;rw [ih];refine ⟨r,fun ⟨x,m⟩=>⟨?_,m⟩⟩;by_cases hn:u.1=n
   ·rw [hn] at m;rcases m with ⟨m,_⟩ | ⟨⟨_,_,_,m⟩,_⟩
    ·exact (t _ _ m).elim
    ·exact (f _ _ _ _ _ m).elim
   ·omega
def Zgh {P:Program} {x y:SV} {k:Nat} (h:Zia P x k=Xa y):∃ cs j e l,x = .box cs∧k=j+1∧cs[j]? = Xa (.own Xb e l)∧y = .box (cs.set j (.c (.slice Xb (P.cellsOf e) l))):=by
 unfold Zia at h;split at h
 ·rename_i cs j;split at h
  ·rename_i e l a
   cases h
   exact ⟨cs,j,e,l,rfl,rfl,a,rfl⟩
  ·cases h
 ·cases h
def Sim.loose {c:Ctx} {σ:Nat→AV} {s:Array Value} {w:World} {lim:Nat→Nat} {X:Nat→Nat→Option Nat} (h:Sim c σ s w lim X) {d k:Nat} {e:TypeId} {xs:List (List AV)} {cs:List AV} (l:σ d = .box cs) (v:cs[k]? = Xa (.own Xb e xs)) :
  ∃ X',Sim c (upd σ d (.box (cs.set k (.slice Xb (c.P.cellsOf e) xs)))) s w lim X':=by
 have m:d < c.nt:=by
  rcases XS d c.nt with hlt | hge
  ·exact hlt
  ·have:=h.out d hge;rw [l] at this;rcases this with h0 | h0<;>cases h0
 have x:=h.rel d;rw [l] at x;obtain ⟨b,arr,t,C,D,G,H,J,L,z⟩:=(show ZK c.P w lim (X d) cs _ from x)
 refine ⟨_,h.putRow (S:=fun _=>False) (X d) (Jc.refl w lim _) (fun _ M=>M.elim) m rfl (fun _ _=>rfl) (.inr ⟨⟨_,rfl⟩,rfl,rfl⟩) (fun i q _ _=>⟨fun T n g=>?_,rfl,fun _ _=>.of rfl⟩) ?_
  (fun q b' f=>⟨(h.ours d q b' f).1,(h.ours d q b' f).2,fun i j o N=>o (h.dist i j d q b' N f).1⟩) (fun q O b' f p=>(h.dist d q d O b' f p).2)⟩
 ·rw [l] at g
  cases q with
  | zero => cases g
  | succ q =>
   refine ⟨n,?_,rfl⟩
   have f:q≠k:=fun Q=>by
    subst Q;simp only [Zy,v] at g
    cases g
   simp only [Zy,List.getElem?_set,P3 (Ne.symm f)] at g ⊢;exact g
 ·show ZK c.P w lim (Zaz X d (X d) d) _ _;rw [Zx];refine ⟨b,arr,t,C,D,G,by rw [TD];exact H,J,fun y a=>?_,fun i y u a A=>?_⟩
  ·rcases UR a with a | rfl
   ·exact L y a
   ·exact .inl rfl
  ·rw [List.getElem?_set] at a;split at a
   ·rename_i r;subst r;split at a
    ·cases a
     exact Jt.rep (z k _ u v A) Xb rfl
    ·cases a
   ·exact z i y u a A
def Zeo {P:Program} {E:Env} (t:E.top≤1024) {c:Ctx} (z:c.P=P) {s:Tr} {n:Nat} {ρ:Nat→V} (p:Nat×Nat) {L:Array Value} {w:World} (C:Vy E s n) (h:∃ lim X,Sim c (Jk E s ρ) L w lim X) :
  Vy E (KT P E s p) n∧∃ lim X,Sim c (Jk E (KT P E s p) ρ) L w lim X:=by
 unfold KT;split
 ·rename_i e l J;split
  ·rename_i M
   have g:VO E ((p.1,KA (gE E s p.1) p.2 Xb e l)::KV P (gE E s) p.1 p.2 e l E.top):=by
    unfold VO;rw [XE];intro u m;rcases Xr.1 m with rfl | m
    ·simpa using Yf M.1
    ·simpa using ((YB E.top u).1 m).1
   have T:=Kd J (C p.1);refine ⟨JX t _ _ g C fun u m=>?_,?_⟩
   ·rcases Xr.1 m with rfl | m
    ·exact Wp (C p.1) T
    ·rcases ((YB E.top u).1 m).2 with ⟨_,j⟩ | ⟨_,j⟩ <;> rw [j]
     ·exact T
     ·trivial
   ·obtain ⟨lim,X,r⟩:=h;rw [Ya t _ _ _ g]
    have Y:∀ u∈((KV P (gE E s) p.1 p.2 e l E.top).map fun u=>(u.1,u.2.den ρ)),u.1≠p.1∧((Jk E s ρ u.1 = .mref p.1 p.2∧u.2 = .slice Xb (c.P.cellsOf e) (l.den ρ))∨((∃ o,Jk E s ρ u.1 = .eref p.1 p.2 o)∧u.2 = .dead)):=by
     intro u m;obtain ⟨v,U,rfl⟩:=Xs.1 m
     have N:v.1≠p.1:=by
      intro Z;have j:=((YB E.top v).1 U).2;rw [Z] at j;rcases j with ⟨j,_⟩ | ⟨⟨_,_,_,j⟩,_⟩ <;> rw [j] at J<;>cases J
     refine ⟨N,?_⟩;rcases ((YB E.top v).1 U).2 with ⟨G,j⟩ | ⟨⟨i,s',o,G⟩,j⟩
     ·exact .inl ⟨by show (gE E s v.1).den ρ=_;rw [G];rfl,by rw [j,z];rfl⟩
     ·exact .inr ⟨⟨_,by show (gE E s v.1).den ρ=_;rw [G];rfl⟩,by rw [j];rfl⟩
    have hB:∀ i,Jz (Jk E s ρ i) p.1 p.2→i∈((KV P (gE E s) p.1 p.2 e l E.top).map fun u=>(u.1,u.2.den ρ)).map (·.1):=by
     intro i hi;rw [Uw];have f:Jz ((gE E s i).den ρ) p.1 p.2:=hi
     have A:i < E.top:=by
      rcases XS i E.top with h | h
      ·exact h
      ·rw [Znh s i h] at f;rcases f with h0 | ⟨_,h0⟩ <;> cases h0
     have O:∃ x,(i,x)∈KV P (gE E s) p.1 p.2 e l E.top:=by
      cases hg:gE E s i with
      | mref d' q' =>
       rw [hg] at f;rcases f with h0 | ⟨_,h0⟩ <;> cases h0;exact ⟨_,(YB E.top (i,_)).2 ⟨A,.inl ⟨hg,rfl⟩⟩⟩
      | eref d' q' a b o =>
       rw [hg] at f;rcases f with h0 | ⟨_,h0⟩ <;> cases h0;exact ⟨_,(YB E.top (i,_)).2 ⟨A,.inr ⟨⟨_,_,_,hg⟩,rfl⟩⟩⟩
      | c y => rw [hg] at f; rcases f with h0 | ⟨_, h0⟩ <;> cases y <;> cases h0
      | _ => rw [hg] at f; rcases f with h0 | ⟨_, h0⟩ <;> cases h0
     obtain ⟨x,Q⟩:=O;exact Xs.2 ⟨_,Q,rfl⟩
    obtain ⟨H,hf⟩:=r.freeze (d:=p.1) (q:=p.2) (Zib ρ M.2.2.1) (Jn ρ J) (by rw [z];omega) (by rw [z];exact M.2.2.2) Y hB;refine ⟨H,X,?_⟩;rw [Xn,VT];exact hf
  ·exact ⟨C,h⟩
 ·split
  ·rename_i x Q;split
   ·rename_i A;have g:VO E [(p.1,x)]:=by simpa [VO] using Yf A
    obtain ⟨cs,k,e,l,G,j,W,rfl⟩:=Zgh Q;have D:=C p.1;rw [G] at D;refine ⟨JX t _ _ g C fun u m=>?_,?_⟩
    ·rw [XF.1 m];intro y S;rcases UR S with S | rfl
     ·exact D y S
     ·exact (show l.bd n from D (.own Xb e l) (Xo W))
    ·obtain ⟨lim,X,r⟩:=h;rw [Ya t _ _ _ g];have hd:Jk E s ρ p.1 = .box (cs.map (BC.den ρ)):=by show (gE E s p.1).den ρ=_;rw [G];rfl
     obtain ⟨X',hX⟩:=r.loose hd (k:=k) (e:=e) (xs:=l.den ρ) (by rw [Xp,W];rfl);refine ⟨lim,X',?_⟩
     have e1:(SV.box (cs.set k (.c (.slice Xb (P.cellsOf e) l)))).den ρ = .box ((cs.map (BC.den ρ)).set k (.slice Xb (c.P.cellsOf e) (l.den ρ))):=by
      rw [z];simp only [SV.den,List.map_set];rfl
     show Sim c (upd (Jk E s ρ) p.1 ((SV.box (cs.set k (.c (.slice Xb (P.cellsOf e) l)))).den ρ)) L w lim X';rw [e1];exact hX
   ·exact ⟨C,h⟩
  ·exact ⟨C,h⟩
def ZhI {E:Env} (i:E.top≤1024) {c:Ctx} {a:List Nat} {s:Tr} {n:Nat} {ρ:Nat→V} (d:Nat) {m:Array Value} {w:World} (k:Vy E s n) (h:∃ lim X,Sim c (Jk E s ρ) m w lim X) :
  Vy E (ZaC E a s d) n∧∃ lim X,Sim c (Jk E (ZaC E a s d) ρ) m w lim X:=by
 unfold ZaC;split
 ·rename_i e l o;split
  ·rename_i p
   have b:VO E ((d,.dead)::Jx (gE E s) d E.top):=by
    unfold VO;rw [XE];intro u f;rcases Xr.1 f with rfl | f
    ·simpa using Yf p.1
    ·simpa using ((JZ E.top u).1 f).2.1
   refine ⟨JX i _ _ b k fun u f=>?_,?_⟩
   ·rcases Xr.1 f with rfl | f
    ·trivial
    ·rw [((JZ E.top u).1 f).1];trivial
   ·obtain ⟨lim,X,j⟩:=h;rw [Ya i _ _ _ b];have q:K5 (Jk E s ρ) d ((Jx (gE E s) d E.top).map fun u=>(u.1,u.2.den ρ)):=J8 (g:=gE E s) ρ (Znh s);obtain ⟨X',r,_⟩:=j.freeAll (t:=d) (x:=Xc) (e:=e) (xs:=l.den ρ) (by show (gE E s d).den ρ=_;rw [o];rfl) (.inr q);exact ⟨lim,X',r⟩
  ·exact ⟨k,h⟩
 ·exact ⟨k,h⟩
def ZfB {P:Program} {E:Env} (g:E.top≤1024) {c:Ctx} (k:c.P=P) {id:Nat} {ops:Array Oper} {s:Tr} {n:Nat} {ρ:Nat→V} {f:Array Value} {w:World} {lim:Nat→Nat} {X:Nat→Nat→Option Nat} (m:Vy E s n) (h:Sim c (Jk E s ρ) f w lim X) :
  Vy E (Ztt P E id ops s) n∧∃ lim X,Sim c (Jk E (Ztt P E id ops s) ρ) f w lim X:=by
 have a:∀ (l:List (Nat×Nat)) (s:Tr),Vy E s n→(∃ lim X,Sim c (Jk E s ρ) f w lim X)→Vy E (l.foldl (KT P E) s) n∧∃ lim X,Sim c (Jk E (l.foldl (KT P E) s) ρ) f w lim X:=by
  intro l
  induction l with
  | nil => exact fun s b d => ⟨b, d⟩
  | cons p l ih =>
   intro s b d;obtain ⟨i,j⟩:=Zeo g k p b d;exact ih _ i j
 have e:∀ (l:List Nat) (s:Tr),Vy E s n→(∃ lim X,Sim c (Jk E s ρ) f w lim X)→Vy E (l.foldl (ZaC E (ZhB ops)) s) n∧∃ lim X,Sim c (Jk E (l.foldl (ZaC E (ZhB ops)) s) ρ) f w lim X:=by
  intro l
  induction l with
  | nil => exact fun s b d => ⟨b, d⟩
  | cons p l ih =>
   intro s b d;obtain ⟨i,j⟩:=ZhI g p b d;exact ih _ i j
 obtain ⟨i,j⟩:=a (E.fz id) s m ⟨lim,X,h⟩;exact e (ZAp ops) _ i j
section
variable {P:Program} {E:Env} {R:AV→List AV→Prop}
def ZkS (lv:Nat) (A A':Nat→List V→Prop):Prop:=∀ i,i < lv→A' i=A i
def ZoA (hm:P.follows .mixedOrders=Xc) (b8:EnvSound P E) (D:E.top≤1024) {c:Ctx} (ab:c.P=P) (aa:c.nt=E.nt) (ay:∀ d v,c.pin d=Xa v→d∈E.pins) (ai:∀ d b,c.gpin d=Xa b→E.nt≤d∧d < E.top) :
  ∀ (af:Code) (lv n:Nat) (s:Tr) (kn:Tr→Nat→STree) (kx:Nat→Tr→Nat→STree) (Z:Tr→Nat→STree) (A:Nat→List V→Prop) (ρ:Nat→V) (y:Array Value) (w:World) (lim:Nat→Nat) (X:Nat→Nat→Option Nat)
   (Q:Exit→Act→World→Prop),Vy E s n→(ev P E lv af s n kn kx Z).wp P R A ρ→Sim c (Jk E s ρ) y w lim X→
   (∀ N n' G A',ZkS lv A A'→Vy E N n'→(kn N n').wp P R A' G→∀ tm' w' C X',Sim c (Jk E N G) tm' w' C X'→Q .normal ⟨tm',[]⟩ w')→
   (∀ id N n' G A',ZkS lv A A'→Vy E N n'→(kx id N n').wp P R A' G→∀ tm' w' C X',Sim c (Jk E N G) tm' w' C X'→Q (.exit id) ⟨tm',[]⟩ w')→
   (∀ N n' G A',ZkS lv A A'→Vy E N n'→(Z N n').wp P R A' G→∀ tm' w' C X',Sim c (Jk E N G) tm' w' C X'→Q .ret ⟨tm',[]⟩ w')→
   af.wp P Q ⟨y,[]⟩ w:=by
 intro af
 induction af with
 | skip => intro lv n s kn kx Z A ρ y w lim X Q L h f Y hx hr; exact wp_skip (Y s n ρ A (fun _ _ => rfl) L h y w lim X f)
 | label l => intro lv n s kn kx Z A ρ y w lim X Q L h f Y hx hr; exact wp_label (Y s n ρ A (fun _ _ => rfl) L h y w lim X f)
 | exit id => intro lv n s kn kx Z A ρ y w lim X Q L h f Y hx hr; exact wp_exit (hx id s n ρ A (fun _ _ => rfl) L h y w lim X f)
 | ret => intro lv n s kn kx Z A ρ y w lim X Q L h f Y hx hr; exact wp_ret (hr s n ρ A (fun _ _ => rfl) L h y w lim X f)
 | seq a b iha ihb =>
  intro lv n s kn kx Z A ρ y w lim X Q L h f Y hx hr;refine wp_seq (iha lv n s _ kx Z A ρ y w lim X _ L h f ?_ hx hr);intro N n' G A' hA O h' tm' w' C X' H
  exact ihb lv n' N kn kx Z A' G tm' w' C X' Q O h' H (fun s2 n2 aj A2 ak=>Y s2 n2 aj A2 fun i hi=>(ak i hi).trans (hA i hi))
   (fun id s2 n2 aj A2 ak=>hx id s2 n2 aj A2 fun i hi=>(ak i hi).trans (hA i hi)) (fun s2 n2 aj A2 ak=>hr s2 n2 aj A2 fun i hi=>(ak i hi).trans (hA i hi))
 | cond x a b iha ihb =>
  intro lv n s kn kx Z A ρ y w lim X Q L h f Y hx hr;simp only [ev] at h;split at h
  ·rename_i t ht;have b9:x = .tmp t:=by cases x<;>simp [Z8] at ht;rw [ht]
   subst b9
   have al:∀ v:BE,gE E s t = .c (.bool v)→Act.eval ⟨y,[]⟩ (.tmp t) = .bool (v.den ρ):=by
    intro v hv;have az:=f.rel t;have:Jk E s ρ t = .val (.bool (v.den ρ)):=by simp only [Jk,hv,SV.den,SC.den]
    rw [this] at az;exact VQ az
   split at h
   ·rename_i v hv;have he:=al _ hv;simp only [BE.den] at he;split at h
    ·rename_i a4;subst a4;exact wp_cond_true he (iha lv n s kn kx Z A ρ y w lim X Q L h f Y hx hr)
    ·rename_i a4;have:v=Xb:=by simpa using a4
     subst this;exact wp_cond_false he (ihb lv n s kn kx Z A ρ y w lim X Q L h f Y hx hr)
   ·rename_i v _ hv;refine wp_cond_split (al v hv) (fun am=>?_) fun am=>?_
    ·obtain ⟨an,ac⟩:=Wt D hv am;exact iha lv n _ kn kx Z A ρ y w lim X Q (J7 (x:=.c (.bool (.lit Xc))) D an L trivial) (h.1 am) (by rw [ac];exact f) Y hx hr
    ·obtain ⟨an,ac⟩:=Wt D hv am;exact ihb lv n _ kn kx Z A ρ y w lim X Q (J7 (x:=.c (.bool (.lit Xb))) D an L trivial) (h.2 am) (by rw [ac];exact f) Y hx hr
   ·exact h.elim
  ·exact h.elim
 | block id body ih =>
  intro lv n s kn kx Z A ρ y w lim X Q L h f Y hx hr;refine wp_block (ih lv n s kn _ Z A ρ y w lim X _ L h f Y ?_ hr);intro bn N n' G A' hA O h' tm' w' C X' H;unfold Exit.inBlock;by_cases hid:bn=id
  ·rw [P4 hid] at h';simp only [hid,if_true];exact Y N n' G A' hA O h' tm' w' C X' H
  ·rw [P3 hid] at h';simp only [hid,if_false];exact hx bn N n' G A' hA O h' tm' w' C X' H
 | scope body ih =>
  intro lv n s kn kx Z A ρ y w lim X Q L h f Y hx hr;exact wp_scope_straight (ih lv n s kn kx Z A ρ y w lim X _ L h f Y hx hr)
 | loop body ih =>
  intro lv n s kn kx Z A ρ y w lim X Q L h f Y hx hr;simp only [ev] at h;split at h
  case isFalse=>exact h.elim
  rename_i ah;split at h
  case h_2=>exact h.elim
  rename_i ao ad;obtain ⟨I,m,h0,au⟩:=h
  have a0:∀ {N:Tr} {av:List VE},Y3 P (gE E N) (E.keep (Jo body))=Xa av→(Jb (E.keep (Jo body)) 0).2=av.length:=by
   intro N av hv;have:=(K7 (P:=P) (g:=gE E N) (ρ:=ρ) _ 0 av [] hv rfl).1;omega
  have ca:∀ (k:Nat) (vs:List V) (y:Array Value) (w:World) (lim:Nat→Nat) (X:Nat→Nat→Option Nat),m vs < k→vs.length=ao.length→I vs→
    Sim c (Jk E (JO (Jb (E.keep (Jo body)) 0).1 (.leaf .dead)) (bind ZfZ 0 vs)) y w lim X→Code.rounds P body Q k ⟨y,[]⟩ w:=by
   intro k
   induction k with
   | zero => intro vs y w lim X an; omega
   | succ k ihk =>
    intro vs y w lim X an cb hI f;rw [rounds_succ];obtain ⟨k1,k2,k3,k4,k5,k6⟩:=WN ah
    have cd:Vy E (JO (Jb (E.keep (Jo body)) 0).1 (.leaf .dead)) (Jb (E.keep (Jo body)) 0).2:=by
     refine JX D _ _ ?_ (fun d=>?_) (Zdq _ 0).2
     ·unfold VO;rw [XE];intro u hu;have h2:=(K7 (P:=P) (g:=gE E s) (ρ:=ρ) _ 0 ao [] ad rfl).2.1;have hm:u.1∈(E.keep (Jo body)).map (·.1):=by rw [← h2];exact Xs.2 ⟨u,hu,rfl⟩
      obtain ⟨p,hp,he⟩:=Xs.1 hm;have:=(k2 p hp).1;rw [he] at this;simpa using this
     ·unfold gE;split<;>trivial
    refine ih (lv+1) _ _ _ kx Z _ (bind ZfZ 0 vs) y w lim X _ cd (au vs cb hI) f ?_ ?_ ?_
    ·intro N n' G A' hA O h' tm' w' C X' H;split at h'
     ·rename_i bo ap
      have ce:A' lv=fun aq=>I aq∧m aq < m vs:=by
       rw [hA lv (Ul _)];funext aq;simp only [Zuu,if_true]
      have bp:A' lv (bo.map (VE.den G)):=h';rw [ce] at bp;obtain ⟨cf,da⟩:=bp;obtain ⟨X2,ar⟩:=Zjr D ab aa ay ai ah ZfZ ap H;exact ihk _ tm' w' C X2 (by omega) (by rw [Xi,← a0 ap,a0 ad]) cf ar
     ·exact h'.elim
    ·intro id N n' G A' hA O h' tm' w' C X' H;exact hx id N n' G A' (fun i hi=>by rw [hA i (by omega)];funext aq;simp only [Zuu,Nat.ne_of_lt hi,if_false]) O h' tm' w' C X' H
    ·intro N n' G A' hA O h' tm' w' C X' H;exact hr N n' G A' (fun i hi=>by rw [hA i (by omega)];funext aq;simp only [Zuu,Nat.ne_of_lt hi,if_false]) O h' tm' w' C X' H
  obtain ⟨X0,a5⟩:=Zjr D ab aa ay ai ah ZfZ ad f;exact wp_loop_rounds _ (ca (m (ao.map (VE.den ρ))+1) _ y w lim X0 (Ul _) (by rw [Xi]) h0 a5)
 | region id ops draw =>
  intro lv n s0 kn kx Z A ρ y w c9 X0 Q a5 h a6 Y hx hr;simp only [ev] at h;obtain ⟨L,lim,X,f⟩:=ZfB (P:=P) D ab (id:=id) (ops:=ops) a5 a6;generalize Ztt P E id ops s0=s at h L f;split at h
  ·rename_i x a d T S ae;split at h
   case h_2=>exact h.elim
   rename_i e l hT hl;split at h
   case isFalse=>exact h.elim
   rename_i hh;obtain ⟨ha,hd,a7,cg,ch,bq⟩:=hh;obtain ⟨o,p,U,J,a8,a9,h1,h2,h3,h4⟩:=ZgF ae;obtain ⟨W,k,cap,hv,br⟩:=Zks hl (show Z2 P w lim X (Jk E s ρ) x (Jk E s ρ x) (y.getD x undef) from ab ▸ f.rel x);have ba:ops.size=2:=by rw [← TR,J];rfl
   have bb:ops[0]? = Xa o:=by rw [← Tu,J];rfl
   have bc:ops[1]? = Xa p:=by rw [← Tu,J];rfl
   refine wp_region ?_;rw [ba,show XK 2 = [0,1] from rfl,wpOps_cons];unfold wpOp;simp only [bb,Region.wanted,a8];simp only [if_true];refine .inl (Zr (v:=.slice W k cap) (w':=w) ?_ ?_)
   ·have be:Act.eval ⟨y,[]⟩ (.tmp x)=y.getD x undef:=rfl;simp only [execOp,h1,be,hv,Sem.run_pure]
   ·rw [wpOps_cons];unfold wpOp;simp only [bc,Region.wanted,a9];simp only [if_true]
    have bs:Act.eval (Act.put ⟨y,[]⟩ o.dst (.slice W k cap)) (.tmp a) = .slice W k cap:=by
     rw [h2];exact Yr y a _ (by rw [f.size,aa];exact ha)
    refine .inl (Zr (v:=.bool (if S=Xc then !W.isNone else W.isNone)) (w':=w) ?_ ?_)
    ·have bt:Act.eval (Act.put ⟨y,[]⟩ o.dst (.slice W k cap)) (.const (.slice Xe 0 0)) = .slice Xe 0 0:=rfl;have bu:=run_equal_slice_nil (P:=P) w T _ W k cap hT
     cases S
     ·simp [execOp,h3,bs,bt,eqGuard,binOp,bu]
     ·simp [execOp,h3,bs,bt,eqGuard,binOp,bu]
    ·have hb:=h W.isNone br;have bf:We (Jk E s ρ a):=Z3 (YA (a:=gE E s a) (b:=.dead) ρ a7);have ci:We (Jk E s ρ d):=Z3 (YA (a:=gE E s d) (b:=.dead) ρ cg);have s1:=f.put (k:=0) (x:=.dead) (v:=.slice W k cap) (by rw [aa];exact ha) bf rfl trivial;have s2:=s1.put (d:=d) (k:=0) (x:=.val (.bool (if S=Xc then !W.isNone else W.isNone))) (v:=.bool (if S=Xc then !W.isNone else W.isNone)) (by rw [aa];exact hd) (by rw [Zp _ _ (Ne.symm ch)];exact ci) rfl (Rep.val rfl)
     have cj:(BE.den (bind ρ n [.b W.isNone]) (if S=Xc then .not (.var n) else .var n))=(if S=Xc then !W.isNone else W.isNone):=by
      have a1:bind ρ n [.b W.isNone] n = .b W.isNone:=by simp [bind]
      cases S
      ·simp only [XQ,if_false,BE.den,a1,V.bool]
      ·simp only [if_true,BE.den,a1,V.bool]
     have bg:Jk E ((s.set depth a .dead).set depth d (.c (.bool (if S=Xc then .not (.var n) else .var n)))) (bind ρ n [.b W.isNone])=upd (upd (Jk E s ρ) a .dead) d (.val (.bool (if S=Xc then !W.isNone else W.isNone))):=by
      rw [YG D (Yf hd),YG D (Yf ha),ZdU L (Zfc ρ n _)];simp only [SV.den,SC.den,cj]
     have ar:Vy E ((s.set depth a .dead).set depth d (.c (.bool (if S=Xc then .not (.var n) else .var n)))) (n+1):=by
      refine J7 D (Yf hd) (J7 D (Yf ha) (ZgE L (Nat.le_succ n)) trivial) ?_
      cases S
      ·exact Ul n
      ·exact Ul n
     rw [h2,h4];show Q .normal ⟨(y.setIfInBounds a (.slice W k cap)).setIfInBounds d (.bool (if S=Xc then !W.isNone else W.isNone)),[]⟩ w;exact Y _ _ _ A (fun _ _=>rfl) ar hb _ w lim _ (by rw [bg];exact s2)
  ·split at h
   ·rename_i x i a b cc T ae _;split at h
    case h_2=>exact h.elim
    rename_i e0 e l M hT bv bw;split at h
    case h_2=>exact h.elim
    rename_i db bz;split at h
    case h_2=>exact h.elim
    rename_i z hz;split at h
    case h_2=>exact h.elim
    rename_i zc sh b0 dc;split at h
    case h_2=>exact h.elim
    rename_i zc' a2;split at h
    case isFalse=>exact h.elim
    rename_i hh;obtain ⟨rfl,ck,⟨h0,cm⟩,ah⟩:=hh;simp only [Zlf,Xk,P5] at ah;obtain ⟨⟨b1,aw,ax,ag,bq,cn,co,cp,b2,cq,cr⟩,a7,cs,ct⟩:=ah;obtain ⟨r1,r2,h⟩:=h;have dd:(0:Int)≤M.den ρ:=r1;have de:M.den ρ≤((l.den ρ).length:Int):=r2;obtain ⟨o,p,q,r,J,a8,a9,cu,cv,h1,h2,h3,h4,h5,h6,⟨cl,h7,h9,cw,cx⟩,h8⟩:=Zdm ae;have b3:Jk E s ρ x = .own Xc e (l.den ρ):=by show (gE E s x).den ρ=_;rw [bv];rfl
    have b4:Jk E s ρ i = .val (.int .i64 (M.den ρ)):=by show (gE E s i).den ρ=_;rw [bw];rfl
    have b5:=KD ρ z.cells.toList;rw [b0] at b5;have a3:∀ (w:World) (lim:Nat→Nat),Ys w lim (zc.map (SC.den ρ)) z.cells.toList:=fun w lim=>Kb (h:=b5.symm);have cy:∀ (w:World) (lim:Nat→Nat),Ys w lim (zc'.map (SC.den ρ)) z.cells.toList:=fun w lim=>(Zah ρ _ _ _ a2).2 w lim _ (a3 w lim)
    have cz:∀ v∈z.cells.toList,v.oneCell'=Xc:=by
     intro v hv;obtain ⟨j,hj⟩:=X6.1 hv;have c0:=(Xx.1 hj).1;have bh:=a3 w lim;have b6:j < (zc.map (SC.den ρ)).length:=by rw [bh.1];exact c0
     exact (bh.2.2 j _ v (Xm b6) hj).oneCell (bh.2.1 _ (List.getElem_mem b6))
    obtain ⟨v2,w',X',bj,b7,O,c1⟩:=f.clear (x:=x) (n:=(M.den ρ).toNat) (T:=T) (zc:=zc'.map (SC.den ρ)) b3 (by rw [ab];exact hT) (by rw [ab];exact bz) hz ck h0 cy cz (by omega) (by rw [ab];exact cm);rw [ab] at bj b7
    have c2:y.getD i undef = .int .i64 (M.den ρ):=by
     have:=f.rel i;rw [b4] at this;exact VQ (show Rep w lim _ _ from this)
    have c3:((M.den ρ).toNat:Int)=M.den ρ:=by omega
    rw [c3] at bj;have ba:ops.size=4:=by rw [← TR,J];rfl
    have bb:ops[0]? = Xa o:=by rw [← Tu,J];rfl
    have bc:ops[1]? = Xa p:=by rw [← Tu,J];rfl
    have c4:ops[2]? = Xa q:=by rw [← Tu,J];rfl
    have c5:ops[3]? = Xa r:=by rw [← Tu,J];rfl
    have bk:y.size=E.nt:=by rw [f.size,aa]
    refine wp_region ?_;rw [ba,show XK 4 = [0,1,2,3] from rfl,wpOps_cons];unfold wpOp;simp only [bb,Region.wanted,a8];simp only [if_true];refine .inl (Zr (v:=y.getD x undef) (w':=w) ?_ ?_)
    ·have be:Act.eval ⟨y,[]⟩ (.tmp x)=y.getD x undef:=rfl;simp only [execOp,h1,be,Sem.run_pure]
    rw [wpOps_cons];unfold wpOp;simp only [bc,Region.wanted,a9];simp only [if_true]
    have e1:Act.eval (Act.put ⟨y,[]⟩ o.dst (y.getD x undef)) (.tmp i) = .int .i64 (M.den ρ):=by
     rw [h2];exact (Jj y a i _ cp).trans c2
    refine .inl (Zr (v:=.int .i64 (M.den ρ)) (w':=w) ?_ ?_)
    ·simp only [execOp,h3,e1,Sem.run_pure]
    rw [wpOps_cons];unfold wpOp;simp only [c4,Region.wanted,cu];simp only [if_true]
    have e2:Act.eval (Act.put (Act.put ⟨y,[]⟩ o.dst (y.getD x undef)) p.dst (.int .i64 (M.den ρ))) (.tmp a)=y.getD x undef:=by
     rw [h2,h4];exact (Jj _ b a _ b2).trans (Yr y a _ (by rw [bk];exact aw))
    have e3:Act.eval (Act.put (Act.put ⟨y,[]⟩ o.dst (y.getD x undef)) p.dst (.int .i64 (M.den ρ))) (.tmp b) = .int .i64 (M.den ρ):=by
     rw [h2,h4];exact Yr _ b _ (by show b < (y.setIfInBounds a _).size;rw [T4,bk];exact ax)
    refine .inl (Zr (v:=v2) (w':=w) ?_ ?_)
    ·simp only [execOp,h5,XA,Option.map_none,Sem.run_bind,e2,e3,bj,Result.andThen_ok,Sem.run_pure]
    rw [wpOps_cons];unfold wpOp;simp only [c5,Region.wanted,cv];simp only [if_true]
    have e4:Act.eval (Act.put (Act.put (Act.put ⟨y,[]⟩ o.dst (y.getD x undef)) p.dst (.int .i64 (M.den ρ))) q.dst v2) (.tmp cc)=v2:=by
     rw [h2,h4,h6];exact Yr _ cc _ (by show cc < ((y.setIfInBounds a _).setIfInBounds b _).size;rw [T4,T4,bk];exact ag)
    refine .inl (Zr (v:=.tuple #[]) (w':=w') ?_ ?_)
    ·simp only [execOp,h7,h9,cw,cx,resolve,invoke,builtin,Sem.run_bind,Sem.run_pure,Result.andThen_ok,List.map_toArray,Xn,X5,e4,b7]
    have bf:We (Jk E s ρ a):=Z3 (YA (a:=gE E s a) (b:=.dead) ρ a7);have c6:We (Jk E s ρ b):=Z3 (YA (a:=gE E s b) (b:=.dead) ρ cs);have c7:We (Jk E s ρ cc):=Z3 (YA (a:=gE E s cc) (b:=.dead) ρ ct);have s1:=O.put (d:=a) (k:=0) (x:=.dead) (v:=y.getD x undef) (by rw [aa];exact aw) (by rw [Zp _ _ (Ne.symm bq)];exact bf) rfl trivial;have s2:=s1.put (d:=b) (k:=0) (x:=.dead) (v:=.int .i64 (M.den ρ)) (by rw [aa];exact ax) (by rw [Zp _ _ (Ne.symm b2),Zp _ _ (Ne.symm cn)];exact c6) rfl trivial;have s3:=s2.put (d:=cc) (k:=0) (x:=.dead) (v:=v2) (by rw [aa];exact ag) (by rw [Zp _ _ (Ne.symm cr),Zp _ _ (Ne.symm cq),Zp _ _ (Ne.symm co)];exact c7) rfl trivial
    have c8:P1 .sub .i64 ((l.den ρ).length:Int) (M.den ρ)=((l.den ρ).length:Int)-M.den ρ:=by
     show IntKind.i64.wrap _=_;rw [IntKind.wrap_i64];unfold maxLen at c1;omega
    have bm:(LE.app (.take l M) (.rep (.bin .sub .i64 (.len l) M) (ZkE zc'))).den ρ=(l.den ρ).take (M.den ρ).toNat++Xv ((l.den ρ).length-(M.den ρ).toNat) (zc'.map (SC.den ρ)):=by
     show (l.den ρ).take (M.den ρ).toNat++Xv (P1 .sub .i64 ((l.den ρ).length:Int) (M.den ρ)).toNat ((ZkE zc').den ρ)=_;rw [c8,Zaq];congr 2;omega
    have bx:(gE E s x).bd n:=L x;have bi:(gE E s i).bd n:=L i;rw [bv] at bx;rw [bw] at bi
    have bg:Jk E ((((s.set depth x (.own Xc e (.app (.take l M) (.rep (.bin .sub .i64 (.len l) M) (ZkE zc'))))).set depth a .dead).set depth b .dead).set depth cc .dead) ρ=upd (upd (upd (upd (Jk E s ρ) x (.own Xc e ((l.den ρ).take (M.den ρ).toNat++Xv ((l.den ρ).length-(M.den ρ).toNat) (zc'.map (SC.den ρ))))) a .dead) b .dead) cc .dead:=by
     rw [YG D (Yf ag),YG D (Yf ax),YG D (Yf aw),YG D (Yf b1)];simp only [SV.den,bm]
    have ar:Vy E ((((s.set depth x (.own Xc e (.app (.take l M) (.rep (.bin .sub .i64 (.len l) M) (ZkE zc'))))).set depth a .dead).set depth b .dead).set depth cc .dead) n:=
     J7 D (Yf ag) (J7 D (Yf ax) (J7 D (Yf aw) (J7 D (Yf b1) L ⟨⟨bx,bi⟩,⟨bx,bi⟩,Zc3 _ (VP _ _ _ a2 (VK b0))⟩) trivial) trivial) trivial
    rw [h2,h4,h6,h8];exact Y _ _ ρ A (fun _ _=>rfl) ar h _ w' lim _ (by rw [bg];exact s3)
   ·exact Zgu hm b8 D (fun d j=>ZtK) (fun d hd=>ZiK ρ hd) L h ab aa f fun N n' G O h'=>Y N n' G A (fun _ _=>rfl) O h'
 | _ => intro lv n s kn kx Z A ρ y w lim X Q L h f Y hx hr; exact h.elim
end
def WE (b:Array Value):ResultVar→Sem Value
 | .tmp t => pure (b.getD t undef)
 | .cell a t => do loadVar t (← asAddr (b.getD a undef))
def Zf6:ResultVar→Nat
 | .tmp _ => 0
 | .cell _ _ => 1
def ZkB (a:Func) (b:Array Value):results a b=(do
  let vs ← a.results.mapM (WE b)
  pure (if h:vs.size=1 then vs[0] else .tuple vs)):=by
 unfold results;congr 1
def ZiM {P:Program} {w:World} {f:ResultVar→Sem Value} : ∀ (a:List ResultVar) (vs:List Value),a.length=vs.length→
  (∀ (i:Nat) (r:ResultVar) (v:Value),a[i]? = Xa r→vs[i]? = Xa v→(f r).run P w = .ok v w)→(a.mapM f).run P w = .ok vs w
 | [], [], _, _ => by simp
 | [], _ :: _, h, _ => by simp at h
 | _ :: _, [], h, _ => by simp at h
 | r :: a, v :: vs, h, hf => by
  have b:=hf 0 r v rfl rfl;have c:=ZiM a vs (by simpa using h) fun i d e g j=>hf (i+1) d e (by simpa using g) (by simpa using j);simp [List.mapM_cons,b,c]
def WD {P:Program} {w:World} {a:Func} {b:Array Value} {vs:List Value} (c:a.results.toList.length=vs.length)
  (d:∀ (i:Nat) (r:ResultVar) (v:Value),a.results.toList[i]? = Xa r→vs[i]? = Xa v→(WE b r).run P w = .ok v w) :
  (results a b).run P w = .ok (match vs with | [v]=>v | vs=>.tuple vs.toArray) w:=by
 have h:=ZiM _ _ c d;rw [ZkB,Array.mapM_eq_mapM_toList];simp only [Sem.run_bind,Sem.run_map,h,Result.andThen_ok];rcases vs with _ | ⟨v,_ | ⟨u,l⟩⟩ <;> simp
section
variable {P:Program} {E:Env}
def ZfG {c:Ctx} (n:c.P=P) {s:Tr} {ρ:Nat→V} {C:Array Value} {w:World} {lim:Nat→Nat} {X:Nat→Nat→Option Nat} (D:Sim c (Jk E s ρ) C w lim X) {r:ResultVar} {x:TC}
  (h:ZdG P (gE E s) r=Xa x):∃ v,(WE C r).run P w = .ok v w∧Yn P w lim (X (Yj r) (Zf6 r)) (x.den ρ) v:=by
 cases r with
 | tmp t =>
  have d:=D.rel t;simp only [ZdG] at h;split at h
  ·rename_i y f;simp only [Xf] at h;subst h;have:Jk E s ρ t=y.den ρ:=by simp only [Jk,f,SV.den]
   rw [this] at d;exact ⟨_,rfl,by cases y<;>exact d⟩
  ·rename_i cs f;simp only [Xf] at h;subst h;have:Jk E s ρ t = .agg (cs.map (SC.den ρ)):=by simp only [Jk,f,SV.den]
   rw [this] at d;exact ⟨_,rfl,d⟩
  ·rename_i b e xs f;simp only [Xf] at h;subst h;have:Jk E s ρ t = .own b e (xs.den ρ):=by simp only [Jk,f,SV.den]
   rw [this,n] at d;exact ⟨_,rfl,d⟩
  ·cases h
 | cell t T =>
  have d:=D.rel t;simp only [ZdG] at h;split at h
  ·rename_i cs k f;split at h
   ·rename_i g;simp only [Xf] at h;subst h;have:Jk E s ρ t = .box (cs.map (BC.den ρ)):=by simp only [Jk,f,SV.den]
    rw [this,n] at d;obtain ⟨b,us,R,G,g3,g4,g5,g6⟩:=ZK.part (show ZK P w lim (X t) _ _ from d) 0 (P.cellsOf T) (by simp [g.1]) (by rw [U6,Uc (by simp [g.1])];exact ZcF g.2.1 ρ) (by rw [U6,Uc (by simp [g.1])];exact Zg9 g.2.2 ρ);refine ⟨.agg us.toArray,?_,?_⟩
    ·obtain ⟨i,H⟩:=Zec k;have l:=run_loadCells_list (P:=P) w ⟨b,0,Xe⟩ us (fun j v J=>by rw [J1];exact g4 j v J);rw [g3] at l;simp [WE,G,asAddr,loadVar,ZaA k,Zt H,l]
    ·have L:(TC.agg (cs.map (ZdP P))).den ρ = .agg ((((cs.map (BC.den ρ)).drop 0).take (P.cellsOf T)).map (Yu P)):=by
      rw [U6,Uc (by simp [g.1])];simp only [TC.den,Uw];congr 1;exact List.map_congr_left fun b _=>ZdV P ρ b
     rw [L];exact .agg (by simp [g3,g.1]) g5 g6
   ·cases h
  ·rename_i M e xs k f;simp only [Xf] at h;subst h;have:Jk E s ρ t = .box [.own M e (xs.den ρ)]:=by simp only [Jk,f,SV.den];rfl
   rw [this,n] at d;obtain ⟨b,arr,ty,N,o,p,q,O,Q,z⟩:=(show ZK P w lim (X t) _ _ from d);obtain ⟨u,m⟩:∃ u,arr[0]? = Xa u:=⟨_,Uz (by rw [q];simp)⟩;refine ⟨u,?_,z 0 _ u rfl m⟩;have a:w.cell? ⟨b,0,Xe⟩=Xa u:=by rw [Je p];exact m
   simp [WE,o,asAddr,loadVar,KY k,a]
  ·rename_i y k f;simp only [Xf] at h;subst h;have:Jk E s ρ t = .box [y.den ρ]:=by simp only [Jk,f,SV.den];rfl
   rw [this,n] at d;obtain ⟨b,arr,ty,N,o,p,q,O,Q,z⟩:=(show ZK P w lim (X t) _ _ from d);obtain ⟨u,m⟩:∃ u,arr[0]? = Xa u:=⟨_,Uz (by rw [q];simp)⟩;have A:=z 0 _ u rfl m;refine ⟨u,?_,by cases y<;>exact A⟩;have a:w.cell? ⟨b,0,Xe⟩=Xa u:=by rw [Je p];exact m
   simp [WE,o,asAddr,loadVar,KY k,a]
  ·cases h
def Zg5 {c:Ctx} (g:c.P=P) {s:Tr} {ρ:Nat→V} {j:Array Value} {w:World} {lim:Nat→Nat} {X:Nat→Nat→Option Nat} (k:Sim c (Jk E s ρ) j w lim X):∀ (a:List ResultVar) (xs:List TC),
  Zd2 P (gE E s) a=Xa xs→∃ vs:List Value,a.length=vs.length∧xs.length=vs.length∧∀ (i:Nat) (r:ResultVar) (v:Value),a[i]? = Xa r→vs[i]? = Xa v→
   (WE j r).run P w = .ok v w∧∀ x,xs[i]? = Xa x→Yn P w lim (X (Yj r) (Zf6 r)) (x.den ρ) v
 | [], xs, h => by
  simp only [Zd2,Xf] at h;subst h;exact ⟨[],rfl,rfl,by simp⟩
 | r :: a, xs, h => by
  simp only [Zd2] at h;split at h
  ·rename_i x xs' l d;simp only [Xf] at h;subst h;obtain ⟨v,m,n⟩:=ZfG g k l;obtain ⟨vs,o,p,g3⟩:=Zg5 g k a xs' d;refine ⟨v::vs,by simp [o],by simp [p],fun i q t e f=>?_⟩
   cases i with
   | zero =>
    simp only [XM,Xf] at e f;subst e;subst f;refine ⟨m,fun y b=>?_⟩;simp only [XM,Xf] at b;subst b;exact n
   | succ i =>
    obtain ⟨u,z⟩:=g3 i q t (by simpa using e) (by simpa using f);exact ⟨u,fun y b=>z y (by simpa using b)⟩
  ·cases h
def ZhM {w:World} {lim:Nat→Nat} {X:Nat→Nat→Option Nat} {σ:Nat→AV} {d:Nat} {x:TC} {ρ:Nat→V} {v:Value} (h:Yn P w lim (X d 0) (x.den ρ) v):Z2 P w lim X σ d (x.den ρ) v:=by
 cases x with
 | c y => cases y <;> exact h
 | agg cs => exact h
 | own x e l => exact h
 | gone => trivial
def ZdK (ρ:Nat→V):∀ (b:List SV) (i:Nat) (σ:Nat→AV) (d:Nat),JV σ ((Vw b i).map fun u=>(u.1,u.2.den ρ)) d=if i≤d∧d < i+b.length then Z5 (b.map (SV.den ρ)) (d-i) else σ d
 | [], i, σ, d => by
  rw [P3 (by simp)];rfl
 | a :: b, i, σ, d => by
  simp only [Vw,Xn,JV];rw [ZdK ρ b (i+1)];by_cases h:i+1≤d∧d < i+1+b.length
  ·rw [P4 h,P4 (by simp only [XO];omega)];obtain ⟨k,c⟩:∃ k,d-i=k+1:=⟨d-i-1,by omega⟩;rw [c,show d-(i+1)=k by omega];simp [Z5]
  ·rw [P3 h];by_cases hd:d=i
   ·subst hd;rw [Jl,P4 (by simp)];simp [Z5]
   ·rw [Zp _ _ hd,P3 (by simp only [XO];omega)]
def Zhh {n:Nat} : ∀ (c:List SV) (i:Nat),(∀ a∈c,a.bd n)→∀ u∈Vw c i,u.2.bd n
 | [], i, _, u, hu => by simp [Vw] at hu
 | a :: c, i, h, u, hu => by
  rcases Xr.1 hu with rfl | hu
  ·exact h a (by simp)
  ·exact Zhh c (i+1) (fun b d=>h b (by simp [d])) u hu
def ZdE:∀ (b:List SV) (i m:Nat),i+b.length≤m→∀ u∈Vw b i,u.1 < m
 | [], i, m, _, u, hu => by simp [Vw] at hu
 | a :: b, i, m, h, u, hu => by
  simp only [XO] at h;rcases Xr.1 hu with rfl | hu
  ·show i < m;omega
  ·exact ZdE b (i+1) m (by omega) u hu
def SV.isBx:SV→Bool
 | .box _ => Xc
 | .gbox _ => Xc
 | _ => Xb
def K2 {a:SV} {b:List SV} {i:Nat} (h:JG E (a::b) i=Xc):JG E b (i+1)=Xc:=by
 cases a<;>simp only [JG,Xk,XQ] at h<;>exact h.2
def WJ:∀ (c:List SV) (i:Nat),JG E c i=Xc→∀ (j:Nat) (a:SV),c[j]? = Xa a→(∀ cs,a = .box cs→i+j∈E.pins)∧(a.isG=Xc↔E.nt≤i+j)
 | [], i, _, j, a, h => by simp at h
 | a :: c, i, hf, j, b, h => by
  cases j with
  | zero =>
   simp only [XM,Xf] at h;subst h;refine ⟨fun cs e=>?_,?_⟩
   ·subst e;simp only [JG,Xk,US] at hf;exact hf.1.2
   ·cases a<;>simp only [JG,Xk,P5,XQ] at hf<;>simp only [SV.isG,XQ,false_iff,true_iff]<;>omega
  | succ j =>
   have:=WJ c (i+1) (K2 hf) j b (by simpa using h);rw [show i+(j+1)=i+1+j by omega];exact this
def Zjl (g:Nat→SV):∀ (b:List SV) (i j:Nat),(Wc g b i)[j]? = (b[j]?).map fun a=>if a.isBx=Xc then g (i+j) else .dead
 | [], i, j => by simp [Wc]
 | a :: b, i, 0 => by cases a <;> rfl
 | a :: b, i, j + 1 => by
  have:=Zjl g b (i+1) j;rw [show i+1+j=i+(j+1) by omega] at this
  cases a<;>simpa [Wc] using this
def ZfY (g:Nat→SV):∀ (b:List SV) (i:Nat),(Wc g b i).length=b.length
 | [], i => rfl
 | a :: b, i => by cases a <;> simp [Wc, ZfY g b]
def ZjQ (args:List SV) (a:List ResultVar) (i k:Nat):Option (Nat×Nat):=
 if i < args.length then (if (args[i]?).map SV.isBx=Xa Xc then Xa (i,k) else Xe)
 else if i=args.length then
  match a with
  | [r] => if k = 0 then Xa (Yj r, Zf6 r) else Xe
  | a => match k with | 0 => Xe | k + 1 => (a[k]?).map fun r => (Yj r, Zf6 r)
 else Xe
def Zjv:∀ (c:List ResultVar),(c.map Yj).Nodup→∀ (i j:Nat) (a b:ResultVar),c[i]? = Xa a→c[j]? = Xa b→Yj a=Yj b→i=j
 | [], _, i, j, a, b, h, _, _ => by simp at h
 | r :: c, hn, i, j, a, b, ha, hb, he => by
  rw [Xn,U1] at hn
  cases i with
  | zero =>
   cases j with
   | zero => rfl
   | succ j =>
    simp only [XM,Xf] at ha;subst ha;exact (hn.1 (Xs.2 ⟨b,Xo (by simpa using hb),he.symm⟩)).elim
  | succ i =>
   cases j with
   | zero =>
    simp only [XM,Xf] at hb;subst hb;exact (hn.1 (Xs.2 ⟨a,Xo (by simpa using ha),he⟩)).elim
   | succ j => rw [Zjv c hn.2 i j a b (by simpa using ha) (by simpa using hb) he]
def ZbG {args:List SV} {a:List ResultVar} {k:Nat} {p:Nat×Nat} (h:ZjQ args a args.length k=Xa p) :
  ∃ j r,a[j]? = Xa r∧p=(Yj r,Zf6 r)∧((a.length=1∧j=0∧k=0)∨(a.length≠1∧k=j+1)):=by
 unfold ZjQ at h;rw [P3 (UT _),P4 rfl] at h;split at h
 ·rename_i r;split at h
  ·rename_i d;simp only [Xf] at h;exact ⟨0,r,rfl,h.symm,.inl ⟨rfl,rfl,d⟩⟩
  ·cases h
 ·rename_i b;split at h
  ·cases h
  ·rename_i k
   cases hr:a[k]? with
   | none => simp [hr] at h
   | some r =>
    simp only [hr,XA,Xf] at h;refine ⟨k,r,hr,h.symm,.inr ⟨fun e=>?_,rfl⟩⟩;obtain ⟨f,c⟩:=TA.1 e;exact b f c
def Zn2 {args:List SV} {f:List ResultVar} (w:Ze5 args f=Xc) {i k m n:Nat} {p:Nat×Nat} (h:ZjQ args f i k=Xa p) (o:ZjQ args f m n=Xa p):i=m∧k=n:=by
 simp only [Ze5,Xk] at w;obtain ⟨y,x⟩:=w;have q:=W4 _ y
 have b:∀ i k p,ZjQ args f i k=Xa p→(i < args.length∧p=(i,k)∧∃ a,args[i]? = Xa a∧a.isBx=Xc)∨i=args.length:=by
  intro i k p h;unfold ZjQ at h;split at h
  ·rename_i s;split at h
   ·rename_i t;simp only [Xf] at h;obtain ⟨a,u,d⟩:=U5.1 t;exact .inl ⟨s,h.symm,a,u,d⟩
   ·cases h
  ·split at h
   ·rename_i s;exact .inr s
   ·cases h
 have g:∀ (j:Nat) (r:ResultVar),f[j]? = Xa r→∀ a,args[Yj r]? = Xa a→a.isBx=Xc→False:=by
  intro j r z a u d;rw [XE] at x;have:=x r (Xo z);rw [u] at this
  cases a<;>simp [SV.isBx] at d<;>cases this
 rcases b i k p h with ⟨h1,h2,a,h3,h4⟩ | h1<;>rcases b m n p o with ⟨h1',h2',a',h3',h4'⟩ | h1'
 ·rw [h2] at h2';simp only [Xw] at h2';exact h2'
 ·subst h1';obtain ⟨j,r,l,c,_⟩:=ZbG o;rw [h2] at c;simp only [Xw] at c;exact (g j r l a (by rw [← c.1];exact h3) h4).elim
 ·subst h1;obtain ⟨j,r,l,c,_⟩:=ZbG h;rw [h2'] at c;simp only [Xw] at c;exact (g j r l a' (by rw [← c.1];exact h3') h4').elim
 ·subst h1;subst h1';obtain ⟨j,r,l,c,g3⟩:=ZbG h;obtain ⟨A,C,v,e,D⟩:=ZbG o;rw [c] at e;simp only [Xw] at e;have:=Zjv f q j A r C l v e.1;refine ⟨rfl,?_⟩;omega
end
section
variable {P:Program} {E:Env}
def callOk_ofR {R : AV → List AV → Prop} (hm : P.follows .mixedOrders = Xc) (hps : EnvSound P E) {f : FuncId} {fn : Func} (hf : P.funcs[f]? = Xa fn) (hname : (fn.name == "runtime.NumGoroutine") = Xb) {args : List SV} {n : Nat} {ρ : Nat → V}
  (hargs:∀ a∈args,a.bd n) {res:AV} {outs:List AV} (hR:∀ r os,R r os→Wm P (os++[r]) (outs++[res])) (h:(ZwR P E fn args n).wp P R (fun _ _=>False) ρ):J2 P f (args.map (SV.den ρ)) res outs:=by
 unfold ZwR at h;split at h
 case h_2=>exact h.elim
 rename_i code hbody;dsimp only at h;split at h
 case isFalse=>exact h.elim
 rename_i hh;obtain ⟨hnt,hnm,hal,hng,haf,hanm⟩:=hh;have hat:=WJ args 0 haf;refine ⟨⟨fn,hf,hname,by rw [hbody];rfl⟩,?_⟩;intro w lim X cargs hcl hrel hdist hsize;rw [Xi] at hcl
 have hgl:∀ (aZ:List SV) (i:Nat),JG E aZ i=Xc→i+aZ.length≤E.nt+((aZ.map (SV.den ρ)).countP AV.isG)∨aZ.length≤(aZ.map (SV.den ρ)).countP AV.isG:=by
  intro aZ
  induction aZ with
  | nil => intro i _; exact .inr (X7 _)
  | cons a aZ ih =>
   intro i hf;have h0:=WJ (a::aZ) i hf 0 a rfl;have hd:(a.den ρ).isG=a.isG:=by cases a<;>first | rfl | (rename_i x;cases x<;>rfl)
   rw [Xn,Tf,hd,XO];by_cases hg:a.isG=Xc
   ·rw [P4 hg];rcases ih (i+1) (K2 hf) with h1 | h1
    ·left;omega
    ·right;omega
   ·rw [P3 hg]
    have h2:i < E.nt:=by
     rcases XS i E.nt with h | h
     ·exact h
     ·exact (hg (h0.2.2 (by simpa using h))).elim
    rcases ih (i+1) (K2 hf) with h1 | h1
    ·left;omega
    ·left;omega
 have hcn:cargs.length≤E.nt:=by
  rcases hgl args 0 haf with h1 | h1<;>omega
 have hcd:∀ d,d < args.length→(∃ a,args[d]? = Xa a):=fun d hd=>⟨_,Xm hd⟩;refine calls_of_wp hf hbody ?_
 let c:Ctx:=⟨P,w,lim,fun b=>∃ i k,X i k=Xa b,E.nt,fun d=>match args[d]? with | some (.box _)=>Xa (cargs.getD d undef) | _=>Xe,fun d=>match args[d]? with | some (.gbox _)=>X d 0 | _=>Xe⟩
 have hlow:VO E (Vw args 0):=by
  unfold VO;rw [XE];intro u hu;have:=ZdE args 0 E.top (by omega) u hu;simpa using this
 have hσ:Jk E (JO (Vw args 0) (.leaf .dead)) ρ=Z5 (args.map (SV.den ρ)):=by
  rw [Ya hnt ρ _ _ hlow];funext d;rw [ZdK,XW,Nat.sub_zero];split
  ·rfl
  ·rename_i hd
   have h1:Jk E (.leaf .dead) ρ d = .dead:=by
    simp only [Jk,gE];split<;>rfl
   have h2:(args.map (SV.den ρ))[d]? = Xe:=Ur (by rw [Xi];omega);rw [h1];simp only [Z5,h2];rfl
 have htm:∀ d,(cargs.toArray++Array.replicate (fn.ntmps-cargs.toArray.size) undef).getD d undef=cargs.getD d undef:=by
  intro d;rw [List.getD_eq_getElem?_getD,Array.getD_eq_getD_getElem?,Array.getElem?_append];simp only [List.size_toArray,List.getElem?_toArray];split
  ·rfl
  ·rename_i h1;rw [Ur (by omega),Array.getElem?_replicate];split<;>rfl
 have hpin:∀ d v,c.pin d=Xa v→(∃ cs,args[d]? = Xa (.box cs))∧v=cargs.getD d undef:=by
  intro d v hv;have hv':(match args[d]? with | some (.box _)=>Xa (cargs.getD d undef) | _=>Xe)=Xa v:=hv;split at hv'
  ·rename_i cs hcs;simp only [Xf] at hv';exact ⟨⟨cs,hcs⟩,hv'.symm⟩
  ·cases hv'
 have hsim:Sim c (Jk E (JO (Vw args 0) (.leaf .dead)) ρ) (cargs.toArray++Array.replicate (fn.ntmps-cargs.toArray.size) undef) w lim X:=by
  rw [hσ]
  have hG:∀ d,(Z5 (args.map (SV.den ρ)) d).isG=Xc↔∃ cs,args[d]? = Xa (.gbox cs):=by
   intro d
   cases ha:args[d]? with
   | none =>
    have h2:(args.map (SV.den ρ))[d]? = Xe:=by rw [Xp,ha];rfl
    simp only [Z5,h2];exact ⟨fun h=>(by cases h),fun ⟨_,h⟩=>(by cases h)⟩
   | some a =>
    have h2:Z5 (args.map (SV.den ρ)) d=a.den ρ:=by simp only [Z5,Xp,ha];rfl
    rw [h2]
    cases a with
    | gbox cs => exact ⟨fun _ => ⟨cs, rfl⟩, fun _ => rfl⟩
    | c x => exact ⟨fun h => (by cases x <;> cases h), fun ⟨_, h⟩ => (by cases h)⟩
    | _ => exact ⟨fun h => (by cases h), fun ⟨_, h⟩ => (by cases h)⟩
  refine ⟨fun d=>by rw [htm d];exact hrel d,?_,fun d hd=>?_,fun d hd=>?_,hdist,fun d k b hb=>⟨hsize d k b hb,.inl ⟨d,k,hb⟩⟩,⟨rfl,rfl,rfl,Xt _,fun _ _=>rfl,fun _ _ _=>⟨rfl,rfl⟩,Ext.refl w lim⟩,fun d v hv=>?_,fun d e xs hdo=>?_,fun d b hb=>?_⟩
  ·show _=E.nt;simp;omega
  ·cases ha:args[d]? with
   | none =>
    left;have h2:(args.map (SV.den ρ))[d]? = Xe:=by rw [Xp,ha];rfl
    simp only [Z5,h2];rfl
   | some a =>
    right;have h3:=(hat d a ha).2.2 (by rw [XW];exact hd);refine (hG d).2 ?_
    cases a<;>simp [SV.isG] at h3
    exact ⟨_,ha⟩
  ·obtain ⟨cs,hcs⟩:=(hG d).1 hd;have:=(hat d _ hcs).2.1 rfl
   rwa [XW] at this
  ·obtain ⟨⟨cs,hcs⟩,rfl⟩:=hpin d v hv;refine ⟨htm d,cs.map (BC.den ρ),?_⟩;simp only [Z5,Xp,hcs];rfl
  ·cases ha:args[d]? with
   | none =>
    have h2:(args.map (SV.den ρ))[d]? = Xe:=by rw [Xp,ha];rfl
    simp only [Z5,h2] at hdo
    cases hdo
   | some a =>
    have h2:Z5 (args.map (SV.den ρ)) d=a.den ρ:=by simp only [Z5,Xp,ha];rfl
    rw [h2] at hdo;rw [XE] at hanm;exact .noMap (ZiT ρ (hanm a (Xo ha)) e xs hdo)
  ·have hb':(match args[d]? with | some (.gbox _)=>X d 0 | _=>Xe)=Xa b:=hb;split at hb'
   ·rename_i cs hcs;exact ⟨hb',(hG d).2 ⟨cs,hcs⟩⟩
   ·cases hb'
 have hfin:∀ s' n' ρ' (A':Nat→List V→Prop),Vy E s' n'→((match ZmS (gE E s') args fn.results.toList with
   | some (_, cs) => .ret (.box cs) (Wc (gE E s') args 0)
   | none =>
   match Zpr P (gE E s') fn.results.toList with
   | some r => if Ze5 args fn.results.toList = Xc then STree.ret r (Wc (gE E s') args 0) else .stuck 124
   | none => .stuck 120) : STree).wp P R A' ρ' → ∀ tm' w' lim' X', Sim c (Jk E s' ρ') tm' w' lim' X' → ∃ v, (results fn tm').run P w' = .ok v w' ∧
    ∃ v1 lim1 X1,Ending.returned v = .returned v1∧Jc w lim w' lim1 (fun b=>∃ i k,X i k=Xa b)∧outs.length=(args.map (SV.den ρ)).length∧
     (∀ i,Z2 P w' lim1 X1 (Z5 (outs++[res])) i (Z5 (outs++[res]) i) (ZaO (args.map (SV.den ρ)).length cargs v1 i))∧ZlZ X1∧
     (∀ i k b,X1 i k=Xa b→b < w'.heap.size∧((∃ i k,X i k=Xa b)∨w.heap.size≤b))∧∀ i,(Z5 (outs++[res]) i).isG=Xc→(Z5 (args.map (SV.den ρ)) i).isG=Xc∧X1 i 0=X i 0:=by
  intro s' n' ρ' A' _ h' tm' w' lim' X' hsim'
  obtain ⟨r,SRC,hA,hB,hval,hG0,h'⟩:∃ (r:SV) (SRC:Nat→Nat→Option (Nat×Nat)),(∀ i,i < args.length→∀ k,SRC i k=if (args[i]?).map SV.isBx=Xa Xc then Xa (i,k) else Xe)∧
    (∀ i k i' k' p,SRC i k=Xa p→SRC i' k'=Xa p→i=i'∧k=k')∧
    (∃ v,(results fn tm').run P w' = .ok v w'∧Z2 P w' lim' (fun i k=>(SRC i k).bind fun p=>X' p.1 p.2) (Z5 ((Wc (gE E s') args 0).map (SV.den ρ')++[r.den ρ'])) args.length (r.den ρ') v)∧
    (r.den ρ').isG=Xb∧(STree.ret r (Wc (gE E s') args 0)).wp P R A' ρ':=by
   split at h'
   ·rename_i d0 cs hbr;unfold ZmS at hbr;split at hbr
    case h_2=>cases hbr
    rename_i t hrs;split at hbr
    case h_2=>cases hbr
    rename_i d1 hgt;split at hbr
    case h_2=>cases hbr
    rename_i cs1 hgd;split at hbr
    case isFalse=>cases hbr
    rename_i hna;simp only [Xf,Xw] at hbr;obtain ⟨rfl,rfl⟩:=hbr
    have hnb:∀ a,args[d1]? = Xa a→a.isBx=Xc→False:=by
     intro a ha hax;rw [ha] at hna
     cases a<;>simp [SV.isBx] at hax<;>cases hna
    refine ⟨.box cs1,fun i k=>if i < args.length then (if (args[i]?).map SV.isBx=Xa Xc then Xa (i,k) else Xe) else if i=args.length then Xa (d1,k) else Xe,fun i hi k=>P4 hi,?_,?_,rfl,h'⟩
    ·intro i k i' k' p h1 h2;dsimp only at h1 h2;split at h1
     ·split at h1
      ·rename_i hi hb;simp only [Xf] at h1;subst h1;obtain ⟨a,ha,hax⟩:=U5.1 hb;split at h2
       ·split at h2
        ·simp only [Xf,Xw] at h2;exact ⟨h2.1.symm,h2.2.symm⟩
        ·cases h2
       ·split at h2
        ·simp only [Xf,Xw] at h2;exact (hnb a (by rw [h2.1];exact ha) hax).elim
        ·cases h2
      ·cases h1
     ·split at h1
      ·rename_i hi;simp only [Xf] at h1;subst h1;split at h2
       ·split at h2
        ·rename_i hi' hb;simp only [Xf,Xw] at h2;obtain ⟨a,ha,hax⟩:=U5.1 hb;exact (hnb a (by rw [← h2.1];exact ha) hax).elim
        ·cases h2
       ·split at h2
        ·rename_i hi';simp only [Xf,Xw] at h2;exact ⟨by rw [hi,hi'],h2.2.symm⟩
        ·cases h2
      ·cases h1
    ·have ht:=hsim'.rel t;have hd:=hsim'.rel d1;have e1:Jk E s' ρ' t = .ptr d1 0:=by simp only [Jk,hgt];rfl
     have e2:Jk E s' ρ' d1 = .box (cs1.map (BC.den ρ')):=by simp only [Jk,hgd];rfl
     rw [e1] at ht;rw [e2] at hd;obtain ⟨b,cs',hb,_,hv⟩:=ht;have hp:ZK P w' lim' (X' d1) (cs1.map (BC.den ρ')) (tm'.getD d1 undef):=hd;obtain ⟨b',hb',hv'⟩:=Y9 hp;rw [hb] at hb';simp only [Xf] at hb';subst hb';refine ⟨tm'.getD t undef,?_,?_⟩
     ·exact WD (vs:=[tm'.getD t undef]) (by rw [hrs];rfl) fun i r' v' hr' hv2=>by
       rw [hrs] at hr'
       cases i with
       | zero =>
        simp only [XM,Xf] at hr' hv2;subst hr';subst hv2;rfl
       | succ i => simp at hr'
     ·show ZK P w' lim' (fun k=>((if args.length < args.length then (if (args[args.length]?).map SV.isBx=Xa Xc then Xa (args.length,k) else Xe) else if args.length=args.length then Xa (d1,k) else Xe:Option (Nat×Nat)).bind fun p=>X' p.1 p.2)) (cs1.map (BC.den ρ')) (tm'.getD t undef)
      have e3:(fun k=>((if args.length < args.length then (if (args[args.length]?).map SV.isBx=Xa Xc then Xa (args.length,k) else Xe) else if args.length=args.length then Xa (d1,k) else Xe:Option (Nat×Nat)).bind fun p=>X' p.1 p.2))=X' d1:=by
       funext k;rw [P3 (UT _),P4 rfl];rfl
      rw [e3,hv,← hv'];exact hp
   ·split at h'
    case h_2=>exact h'.elim
    rename_i r hr;split at h'
    case isFalse=>exact h'.elim
    rename_i hfine;refine ⟨r,ZjQ args fn.results.toList,fun i hi k=>?_,fun i k i' k' p h1 h2=>Zn2 hfine h1 h2,?_,?_,h'⟩
    ·unfold ZjQ;rw [P4 hi]
    ·generalize (Wc (gE E s') args 0).map (SV.den ρ')=outs0
     have hrow:∀ k,ZjQ args fn.results.toList args.length k=match fn.results.toList with
       | [r] => if k = 0 then Xa (Yj r, Zf6 r) else Xe
       | rs => match k with | 0 => Xe | k + 1 => (rs[k]?).map fun r => (Yj r, Zf6 r) := by
      intro k;unfold ZjQ;rw [P3 (UT _),P4 rfl]
      all_goals rfl
     unfold Zpr at hr;split at hr
     ·rename_i r0 hrs
      cases hx:ZdG P (gE E s') r0 with
      | none => simp [hx] at hr
      | some x =>
       simp only [hx,XA,Xf] at hr;subst hr;rw [Zek];obtain ⟨v,h1,h2⟩:=ZfG (c:=c) rfl hsim' hx;refine ⟨v,?_,ZhM ?_⟩
       ·exact WD (vs:=[v]) (by rw [hrs];rfl) fun i r' v' hr' hv'=>by
         rw [hrs] at hr'
         cases i with
         | zero =>
          simp only [XM,Xf] at hr' hv';subst hr';subst hv';exact h1
         | succ i => simp at hr'
       ·show Yn P w' lim' ((ZjQ args fn.results.toList args.length 0).bind fun p=>X' p.1 p.2) _ v;rw [hrow,hrs];exact h2
     ·rename_i hne
      cases hx:Zd2 P (gE E s') fn.results.toList with
      | none => simp [hx] at hr
      | some xs =>
       simp only [hx,XA,Xf] at hr;subst hr;obtain ⟨vs,g1,g2,g3⟩:=Zg5 (c:=c) rfl hsim' _ _ hx
       have hne1:∀ v,vs≠[v]:=by
        intro v hv;rw [hv] at g1;obtain ⟨r',hr'⟩:=TA.1 g1;exact hne r' hr'
       refine ⟨.tuple vs.toArray,?_,?_⟩
       ·have:=WD g1 fun i r' v' hr' hv'=>(g3 i r' v' hr' hv').1;rw [this];rcases vs with _ | ⟨v,_ | ⟨u,l⟩⟩
        ·rfl
        ·exact (hne1 v rfl).elim
        ·rfl
       ·refine ⟨vs,rfl,by simp [g2],fun i y u hy hu=>?_⟩;rw [Xp] at hy
        cases hxi:xs[i]? with
        | none => simp [hxi] at hy
        | some x =>
         simp only [hxi,XA,Xf] at hy;subst hy;obtain ⟨r',hr'⟩:∃ r',fn.results.toList[i]? = Xa r':=⟨_,Xm (by rw [g1];exact (Xx.1 hu).1)⟩;have h3:=(g3 i r' u hr' hu).2 x hxi
         have hsrc:ZjQ args fn.results.toList args.length (i+1)=Xa (Yj r',Zf6 r'):=by
          rw [hrow];split
          ·rename_i r1 hr1;exact (hne r1 hr1).elim
          ·simp [hr']
         show Yn P w' lim' ((ZjQ args fn.results.toList args.length (i+1)).bind fun p=>X' p.1 p.2) _ u;rw [hsrc];exact h3
    ·unfold Zpr at hr;split at hr
     ·obtain ⟨x,_,rfl⟩:=U5.1 hr;rw [Zek]
      cases x with
      | c y => cases y <;> rfl
      | _ => rfl
     ·obtain ⟨x,_,rfl⟩:=U5.1 hr;rfl
  obtain ⟨res0,hres⟩:∃ y,SV.den ρ' r=y:=⟨_,rfl⟩;obtain ⟨outs0,houts⟩:∃ y,(Wc (gE E s') args 0).map (SV.den ρ')=y:=⟨_,rfl⟩;have hww:=hR _ _ h';rw [hres,houts] at hww
  suffices hz:∃ v,(results fn tm').run P w' = .ok v w'∧
    ∃ v1 lim1 X1,Ending.returned v = .returned v1∧Jc w lim w' lim1 (fun b=>∃ i k,X i k=Xa b)∧outs0.length=(args.map (SV.den ρ)).length∧
     (∀ i,Z2 P w' lim1 X1 (Z5 (outs0++[res0])) i (Z5 (outs0++[res0]) i) (ZaO (args.map (SV.den ρ)).length cargs v1 i))∧ZlZ X1∧
     (∀ i k b,X1 i k=Xa b→b < w'.heap.size∧((∃ i k,X i k=Xa b)∨w.heap.size≤b))∧∀ i,(Z5 (outs0++[res0]) i).isG=Xc→(Z5 (args.map (SV.den ρ)) i).isG=Xc∧X1 i 0=X i 0 by
   obtain ⟨v,hrun,v1,lim1,X1,he,hst,hol,hr,hd,hin,hgh⟩:=hz;obtain ⟨X3,k1,k3,k2⟩:=ZdW hr hww
   have hX3:∀ i k b,X3 i k=Xa b→X1 i k=Xa b:=by
    intro i k b hb;rcases k1 i k with e | e
    ·rw [← e];exact hb
    ·rw [e] at hb;cases hb
   have hll:outs0.length=outs.length:=by have:=hww.1;simpa using this
   refine ⟨v,hrun,v1,lim1,X3,he,hst,by rw [← hll,hol],k2,ZgM hd k1,fun i k b hb=>hin i k b (hX3 i k b hb),fun i hi=>?_⟩;obtain ⟨m1,m2⟩:=hgh i (ZeK hww hi);exact ⟨m1,by rw [k3 i (ZaE hi),m2]⟩
  rw [hres,houts] at hval;obtain ⟨v,hv1,hv2⟩:=hval;have hol:outs0.length=args.length:=by rw [← houts,Xi,ZfY]
  have hrt:∀ i,ZaO (args.map (SV.den ρ)).length cargs v i=if i=args.length then v else cargs.getD i undef:=by
   intro i;unfold ZaO;rw [Xi]
  have hout:∀ i,i < args.length→Z5 (outs0++[res0]) i=match args[i]? with | some a=>if a.isBx=Xc then Jk E s' ρ' i else .dead | none=>.dead:=by
   intro i hi;simp only [Z5];rw [XH (by omega),← houts,Xp,Zjl,XW];have:=Xm hi;rw [this];simp only [XA,Option.getD_some];split<;>rfl
  have hgpn:∀ i cs,args[i]? = Xa (.gbox cs)→X' i 0=X i 0∧(Jk E s' ρ' i).isG=Xc:=by
   intro i cs hcs;have hri:=hrel i;have h2:Z5 (args.map (SV.den ρ)) i = .gbox (cs.map (BC.den ρ)):=by simp only [Z5,Xp,hcs];rfl
   rw [h2] at hri;obtain ⟨v',hp⟩:=hri;obtain ⟨b,hb,_⟩:=Y9 hp;obtain ⟨g1,g2⟩:=hsim'.gpin i b (by show (match args[i]? with | some (.gbox _)=>X i 0 | _=>Xe)=_;rw [hcs];exact hb);exact ⟨by rw [g1,hb],g2⟩
  refine ⟨v,hv1,v,lim',fun i k=>(SRC i k).bind fun p=>X' p.1 p.2,rfl,⟨hsim'.frm.os,hsim'.frm.tape,hsim'.frm.output,hsim'.frm.size,hsim'.frm.frz,hsim'.frm.blk,hsim'.frm.ext⟩,by rw [hol,Xi],fun i=>?_,fun d k d' k' b hb hb'=>?_,fun i k b hb=>?_,fun i hi=>?_⟩
  ·rw [hrt];rcases Th i args.length with hi | hi | hi
   ·rw [P3 (by omega),hout i hi];obtain ⟨a,ha⟩:=hcd i hi;rw [ha];dsimp only
    have hrow:a.isBx=Xc→(fun k=>(SRC i k).bind fun p=>X' p.1 p.2)=X' i:=by
     intro hbx;funext k;rw [hA i hi k,ha,P4 (by simp [hbx])];rfl
    cases a with
    | box cs =>
     rw [P4 (show (SV.box cs).isBx=Xc from rfl)];obtain ⟨p1,cs',p2⟩:=hsim'.pin i (cargs.getD i undef) (by show (match args[i]? with | some (.box _)=>Xa (cargs.getD i undef) | _=>Xe)=_;rw [ha]);have hrl:=hsim'.rel i;rw [p2,p1] at hrl;rw [p2];show ZK P w' lim' (fun k=>(SRC i k).bind fun p=>X' p.1 p.2) cs' _;rw [hrow rfl];exact hrl
    | gbox cs =>
     rw [P4 (show (SV.gbox cs).isBx=Xc from rfl)];obtain ⟨_,g2⟩:=hgpn i cs ha;have hrl:=hsim'.rel i;generalize Jk E s' ρ' i=x at g2 hrl
     cases x<;>simp [AV.isG] at g2
     obtain ⟨v',hrl⟩:=hrl;refine ⟨v',?_⟩;show ZK P w' lim' (fun k=>(SRC i k).bind fun p=>X' p.1 p.2) _ v';rw [hrow rfl];exact hrl
    | _ => exact trivial
   ·subst hi
    have hout:Z5 (outs0++[res0]) args.length=res0:=by
     simp only [Z5];rw [XG (by omega),hol];simp
    rw [P4 rfl,hout];exact hv2
   ·have hout:Z5 (outs0++[res0]) i = .dead:=by
     simp only [Z5];rw [Ur (by simp;omega)];rfl
    rw [hout];trivial
  ·cases hp:SRC d k with
   | none => simp [hp] at hb
   | some p =>
    cases hp':SRC d' k' with
    | none => simp [hp'] at hb'
    | some p' =>
     simp only [hp,hp',Xj] at hb hb';obtain ⟨e1,e2⟩:=hsim'.dist _ _ _ _ b hb hb';have:p=p':=Prod.ext e1 e2;subst this;exact hB _ _ _ _ _ hp hp'
  ·cases hp:SRC i k with
   | none => simp [hp] at hb
   | some p =>
    simp only [hp,Xj] at hb;exact hsim'.ours _ _ b hb
  ·rcases Th i args.length with hl | hl | hl
   ·rw [hout i hl] at hi;obtain ⟨a,ha⟩:=hcd i hl;rw [ha] at hi;dsimp only at hi
    cases a with
    | gbox cs =>
     obtain ⟨g1,g2⟩:=hgpn i cs ha;refine ⟨by simp only [Z5,Xp,ha];rfl,?_⟩;show (SRC i 0).bind (fun p=>X' p.1 p.2)=X i 0;rw [hA i hl 0,ha,P4 (show (Xa (SV.gbox cs)).map SV.isBx=Xa Xc from rfl)];exact g1
    | box cs =>
     obtain ⟨p1,cs',p2⟩:=hsim'.pin i (cargs.getD i undef) (by show (match args[i]? with | some (.box _)=>Xa (cargs.getD i undef) | _=>Xe)=_;rw [ha]);rw [P4 (show (SV.box cs).isBx=Xc from rfl),p2] at hi
     cases hi
    | _ => cases hi
   ·subst hl
    have hres0:Z5 (outs0++[res0]) args.length=res0:=by
     simp only [Z5];rw [XG (by omega),hol];simp
    rw [hres0,← hres,hG0] at hi
    cases hi
   ·have:Z5 (outs0++[res0]) i = .dead:=by
     simp only [Z5];rw [Ur (by simp;omega)];rfl
    rw [this] at hi
    cases hi
 refine ZoA hm hps hnt (c:=c) rfl rfl (fun d v hv=>?_) (fun d b hb=>?_) code 0 n _ _ _ _ _ ρ _ w lim X _ ?_ h hsim ?_ ?_ ?_
 ·obtain ⟨⟨cs,hcs⟩,_⟩:=hpin d v hv;have:=(hat d _ hcs).1 cs rfl
  rwa [XW] at this
 ·have hb':(match args[d]? with | some (.gbox _)=>X d 0 | _=>Xe)=Xa b:=hb;split at hb'
  ·rename_i cs hcs;have h1:=(hat d _ hcs).2.1 rfl;have h2:=(Xx.1 hcs).1;exact ⟨by omega,by omega⟩
  ·cases hb'
 ·refine JX hnt _ _ hlow (fun d=>?_) (Zhh args 0 hargs);unfold gE;split<;>trivial
 ·intro s' n' ρ' A' _ hs' h' tm' w' lim' X' hsim';obtain ⟨g1,lim2,X2,g2⟩:=ZfB (P:=P) (E:=E) hnt rfl (id:=1000000) (ops:=#[]) hs' hsim';obtain ⟨v,h1,h2⟩:=hfin _ n' ρ' A' g1 h' tm' w' lim2 X2 g2;exact ⟨rfl,v,h1,h2⟩
 ·intro id s' n' ρ' A' _ hs' h';exact h'.elim
 ·intro s' n' ρ' A' _ hs' h' tm' w' lim' X' hsim';obtain ⟨g1,lim2,X2,g2⟩:=ZfB (P:=P) (E:=E) hnt rfl (id:=1000000) (ops:=#[]) hs' hsim';obtain ⟨v,h1,h2⟩:=hfin _ n' ρ' A' g1 h' tm' w' lim2 X2 g2;exact ⟨rfl,v,h1,h2⟩
end
def Zo9 (P:Program) (rec:TypeId→Bool) (e:Nat):List Field→Nat→Bool
 | [], _ => Xc
 | f :: fs, off => (f.name != "_") && (f.offset == off) &&
  (match P.underlying f.type with
   | some (.int _) => Xc
   | some .bool => Xc
   | some (.struct _) => rec f.type && (P.info? f.type).isSome
   | _ => Xb) &&
  (match Kp P e f.type with | some l=>(P.cellsOf f.type == l.length)&&Zo9 P rec e fs (off+l.length) | none=>Xb)
def ZjT (P:Program):Nat→TypeId→Bool
 | 0, _ => Xb
 | e + 1, T =>
  match P.underlying T with
  | some (.struct fs) => Zo9 P (ZjT P e) e fs.toList 0 && !P.stoodInHeld T
  | _ => Xb
def ZtX (P:Program) (T:TypeId):Bool:=ZjT P 8 T&&!P.eqGuardType P.depth T
def VX:∀ (L1 L2:List Sh) (us:List Value),YL (L1++L2) us→YL L1 (us.take L1.length)∧YL L2 (us.drop L1.length)∧(us.take L1.length).length=L1.length
 | [], L2, us, h => ⟨by simp [YL], by simpa using h, by simp⟩
 | s :: L1, L2, [], h => by cases s <;> exact h.elim
 | s :: L1, L2, u :: us, h => by
  cases s<;>cases u<;>try exact h.elim
  ·obtain ⟨a,b,c⟩:=VX L1 L2 us h.2;exact ⟨⟨h.1,a⟩,b,by simpa using c⟩
  ·obtain ⟨a,b,c⟩:=VX L1 L2 us h;exact ⟨a,b,by simpa using c⟩
def ZhY:∀ (L:List Sh) (a c b d:List Value),YL L a→YL L c→eqV (a++b) (c++d)=(eqV a c&&eqV b d)
 | [], [], [], b, d, _, _ => by simp [eqV]
 | [], _ :: _, _, _, _, h, _ => h.elim
 | [], [], _ :: _, _, _, _, h => h.elim
 | s :: L, [], _, _, _, h, _ => by cases s <;> exact h.elim
 | s :: L, _ :: _, [], _, _, _, h => by cases s <;> exact h.elim
 | s :: L, x :: a, y :: c, b, d, h, h' => by
  cases s<;>cases x<;>(try exact h.elim)<;>cases y<;>try exact h'.elim
  ·simp only [X8,eqV,ZhY L a c b d h.2 h'.2,Bool.and_assoc]
  ·simp only [X8,eqV,ZhY L a c b d h h',Bool.and_assoc]
section
variable {P:Program}
def Zqf (P:Program) (e k:Nat) (T:TypeId):Prop:=∀ (L:List Sh) (us vs:List Value) (w:World),Kp P e T=Xa L→YL L us→YL L vs→
 (Op.equalIn (k+e) T (.agg us.toArray) (.agg vs.toArray)).run P w = .ok (eqV us vs) w
def Zch (e k:Nat) (rec:TypeId→Bool) (hrec:∀ T,rec T=Xc→Zqf P e k T) (w:World) (us vs:List Value):∀ (fs:List Field) (n:Nat) (L:List Sh),Zo9 P rec e fs n=Xc→
  fs.foldr (fun f acc=>match Kp P e f.type,acc with | some a,Xa b=>Xa (a++b) | _,_=>Xe) (Xa [])=Xa L→YL L (us.drop n)→YL L (vs.drop n)→
  (Op.eqFields (k+e) us.toArray vs.toArray fs).run P w = .ok (eqV (us.drop n) (vs.drop n)) w
 | [], n, L, _, hL, hu, hv => by
  simp only [List.foldr_nil,Xf] at hL;subst hL
  cases h:us.drop n with
  | nil => simp [Op.eqFields, eqV]
  | cons x l => rw [h] at hu; exact hu.elim
 | f :: fs, n, L, hf, hL, hu, hv => by
  simp only [Zo9,Xk,bne_iff_ne,ne_eq,beq_iff_eq] at hf;obtain ⟨⟨⟨hname,hoff⟩,hty⟩,hrest⟩:=hf;simp only [List.foldr_cons] at hL;split at hL
  case h_2=>cases hL
  rename_i a L' ha hL';simp only [Xf] at hL;subst hL;rw [ha] at hrest;simp only [Xk,beq_iff_eq] at hrest;obtain ⟨hcells,hrest⟩:=hrest;obtain ⟨u1,u2,u3⟩:=VX a L' _ hu;obtain ⟨v1,v2,v3⟩:=VX a L' _ hv;rw [List.drop_drop] at u2 v2;have ih:=Zch e k rec hrec w us vs fs (n+a.length) L' hrest hL' u2 v2
  have hus:us.drop n=(us.drop n).take a.length++us.drop (n+a.length):=by
   rw [← List.drop_drop,UH]
  have hvs:vs.drop n=(vs.drop n).take a.length++vs.drop (n+a.length):=by
   rw [← List.drop_drop,UH]
  have hev:eqV (us.drop n) (vs.drop n)=(eqV ((us.drop n).take a.length) ((vs.drop n).take a.length)&&eqV (us.drop (n+a.length)) (vs.drop (n+a.length))):=by
   rw [hus,hvs];have:=ZhY a ((us.drop n).take a.length) ((vs.drop n).take a.length) (us.drop (n+a.length)) (vs.drop (n+a.length)) u1 v1;rw [← hus,← hvs] at this ⊢;exact this
  rw [hev]
  -- the field's value
  suffices hx:∃ x y,(part f.type us.toArray f.offset).run P w = .ok x w∧(part f.type vs.toArray f.offset).run P w = .ok y w∧(Op.equalIn (k+e) f.type x y).run P w = .ok (eqV ((us.drop n).take a.length) ((vs.drop n).take a.length)) w by
   obtain ⟨x,y,p1,p2,p3⟩:=hx;simp only [Op.eqFields,hname,ne_eq,not_false_eq_true,if_true,Sem.run_bind,p1,p2,p3,Result.andThen_ok,Sem.run_ite]
   cases h:eqV ((us.drop n).take a.length) ((vs.drop n).take a.length)
   ·simp
   ·simpa using ih
  have he:∃ e',e=e'+1:=by
   cases e with
   | zero => simp [Kp] at ha
   | succ e' => exact ⟨e', rfl⟩
  obtain ⟨e',rfl⟩:=he
  have one:∀ (l:List Value),((l.drop n).take 1).length=1→∃ x,(l.drop n).take 1 = [x]∧l[n]? = Xa x:=by
   intro l hl
   cases h:l.drop n with
   | nil => rw [h] at hl; simp at hl
   | cons x r =>
    refine ⟨x,rfl,?_⟩;have:=congrArg (fun l=>l[0]?) h;simpa using this
  split at hty
  ·rename_i kk hk
   have ha':a = [.int kk]:=by
    simp only [Kp,hk,Xf] at ha;exact ha.symm
   subst ha';obtain ⟨x,x1,x2⟩:=one us u3;obtain ⟨y,y1,y2⟩:=one vs v3;simp only [XO,Ui,XW] at u1 v1 ⊢;rw [x1] at u1 ⊢;rw [y1] at v1 ⊢
   cases x<;>try exact u1.elim
   cases y<;>try exact v1.elim
   obtain ⟨rfl,_⟩:=u1;obtain ⟨rfl,_⟩:=v1
   have p1:∀ (l:List Value) (x:Value),l[n]? = Xa x→(part f.type l.toArray f.offset).run P w = .ok x w:=by
    intro l x h;rw [hoff];have:l.toArray[n]? = Xa x:=by simpa using h
    simp [part,isAgg,run_underlying hk,this]
   refine ⟨_,_,p1 us _ x2,p1 vs _ y2,?_⟩;rw [show k+(e'+1)=(k+e')+1 from rfl,run_equalIn_int w (k+e') f.type _ _ _ _ hk];simp [eqV]
  ·rename_i hk
   have ha':a = [.bool]:=by
    simp only [Kp,hk,Xf] at ha;exact ha.symm
   subst ha';obtain ⟨x,x1,x2⟩:=one us u3;obtain ⟨y,y1,y2⟩:=one vs v3;simp only [XO,Ui,XW] at u1 v1 ⊢;rw [x1] at u1 ⊢;rw [y1] at v1 ⊢
   cases x<;>try exact u1.elim
   cases y<;>try exact v1.elim
   have p1:∀ (l:List Value) (x:Value),l[n]? = Xa x→(part f.type l.toArray f.offset).run P w = .ok x w:=by
    intro l x h;rw [hoff];have:l.toArray[n]? = Xa x:=by simpa using h
    simp [part,isAgg,run_underlying hk,this]
   refine ⟨_,_,p1 us _ x2,p1 vs _ y2,?_⟩;rw [show k+(e'+1)=(k+e')+1 from rfl,run_equalIn_bool' w (k+e') f.type _ _ hk];simp [eqV]
  ·rename_i gs hk;rw [Xk] at hty;obtain ⟨inf,hinf⟩:=Option.isSome_iff_exists.1 hty.2;have hsz:P.cellsOf f.type=inf.size:=ZF hinf
   have p1:∀ (l:List Value),(part f.type l.toArray f.offset).run P w = .ok (.agg ((l.drop n).take a.length).toArray) w:=by
    intro l;rw [hoff];have hag:(isAgg f.type).run P w = .ok Xc w:=by simp [isAgg,run_underlying hk]
    have:l.toArray.extract n (n+inf.size)=((l.drop n).take a.length).toArray:=by
     apply Array.toList_inj.1;rw [Array.toList_extract];simp [List.extract_eq_take_drop,← hcells,hsz]
    rw [← hsz,hcells] at this;simp [part,hag,Zt hinf,← hsz,hcells]
   exact ⟨_,_,p1 us,p1 vs,hrec f.type hty.1 a _ _ w ha u1 v1⟩
  ·cases hty
def Zk7:∀ (e k:Nat) (T:TypeId),ZjT P e T=Xc→Zqf P e k T
 | 0, _, _, h => by simp [ZjT] at h
 | e + 1, k, T, h => by
  intro L us vs w c f g;unfold ZjT at h;split at h
  ·rename_i d a;simp only [Xk,XJ] at h;have b:P.fieldsOf T=d:=by simp only [Program.fieldsOf,a]
   rw [show k+(e+1)=(k+e)+1 from rfl,run_equalIn_struct w (k+e) T _ _ (by rw [b];exact a) h.2,b]
   have:=Zch e k (ZjT P e) (fun T' i=>Zk7 e k T' i) w us vs d.toList 0 L h.1 (by
    rw [Kp] at c;simp only [a] at c;exact c) (by simpa using f) (by simpa using g)
   simpa using this
  ·cases h
def Zpt {a:List TypeId} (h:a.all (ZtX P)=Xc):VZ P a:=by
 intro T c;rw [XE] at h;have b:=h T c;unfold ZtX at b;simp only [Xk,XJ] at b;exact ⟨b.2,fun L d us vs e f w=>Zk7 8 9992 T b.1 L us vs w d e f⟩
end
def Zwd (l:List V):Nat→V:=fun n=>(l[n]?).getD (.i 0)
abbrev I (z:Int):AV:=.val (.int .i64 z)
abbrev B (b:Bool):AV:=.val (.bool b)
def ZbU {z:Int} (a : -(2^63:Int)≤z) (b:z < 2^63):IntKind.i64.wrap z=z:=by
 have e:(2:Int)^63=9223372036854775808:=by decide
 rw [e] at a b;simp only [Xl];have:IntKind.i64.signed=Xc:=rfl;simp [this,IntKind.bits];omega
def ZbC {z:Int} (b:0≤z) (a:z < 2^64):IntKind.u64.wrap z=z:=by
 have e:(2:Int)^64=18446744073709551616:=by decide
 rw [e] at a;simp only [Xl];have:IntKind.u64.signed=Xb:=rfl;simp [this,IntKind.bits];omega
def JP {a b:Int} (c : -(2^63:Int)≤a+b) (d:a+b < 2^63):P1 .add .i64 a b=a+b:=ZbU c d
def Zdl {a b:Int} (c : -(2^63:Int)≤a-b) (d:a-b < 2^63):P1 .sub .i64 a b=a-b:=ZbU c d
def ZrN {a b:Int} (c : -(2^63:Int)≤a*b) (d:a*b < 2^63):P1 .mul .i64 a b=a*b:=ZbU c d
def ZuG {b:Int} (h:b≤62):P1 .shl .i64 1 b=2^b.toNat:=by
 have d:b.toNat≤62:=by omega
 have e:(2:Int)^b.toNat≤2^62:=by
  have:=Nat.pow_le_pow_right (n:=2) (by omega) d
  exact_mod_cast this
 have c:(0:Int) < 2^b.toNat:=by
  have:=Nat.pow_pos (n:=b.toNat) (show 0 < 2 by omega)
  exact_mod_cast this
 have f:(2:Int)^62=4611686018427387904:=by decide
 have g:(2:Int)^63=9223372036854775808:=by decide
 have a:min b.toNat IntKind.i64.bits=b.toNat:=by
  have:IntKind.i64.bits=64:=rfl;omega
 simp only [P1,a,Int.one_mul];rw [ZbU (by omega) (by omega)]
def Ky (n:Nat):(0:Int) < 2^n:=by
 have:=Nat.pow_pos (n:=n) (show 0 < 2 by omega)
 exact_mod_cast this
def Zmm {m n:Nat} (h:m≤n):(2:Int)^m≤2^n:=by
 have:=Nat.pow_le_pow_right (n:=2) (by omega) h
 exact_mod_cast this
def ZV (a b:Int):(P0 .lss a b=Xc)=(a < b):=by simp [P0]
def ZW (a b:Int):(P0 .lss a b=Xb)=(b≤a):=by simp [P0]
def ZS (a b:Int):(P0 .leq a b=Xc)=(a≤b):=by simp [P0]
def ZR (a b:Int):(P0 .leq a b=Xb)=(b < a):=by simp [P0]
def ZT (a b:Int):(P0 .gtr a b=Xc)=(b < a):=by simp [P0]
def ZP (a b:Int):(P0 .gtr a b=Xb)=(a≤b):=by simp [P0]
def ZY (a b:Int):(P0 .geq a b=Xc)=(b≤a):=by simp [P0]
def ZU (a b:Int):(P0 .geq a b=Xb)=(a < b):=by simp [P0]
def ZQ (a b:Int):(P0 .eql a b=Xc)=(a=b):=by simp [P0]
def ZX (a b:Int):(P0 .eql a b=Xb)=(a≠b):=by simp [P0]
def Z0 (a b:Int):(P0 .neq a b=Xc)=(a≠b):=by simp [P0]
def ZZ (a b:Int):(P0 .neq a b=Xb)=(a=b):=by simp [P0]
def Z6 (x y:Bool):(x=y)=(x=Xc↔y=Xc):=by cases x<;>cases y<;>simp
@[reducible] def Sh.T:Sh→Type
 | .int _ => Int
 | .bool => Bool
 | .str => ByteArray
 | .slice _ => List (List AV)
 | .own _ _ => List (List AV)
@[reducible] def ShsT:List Sh→Type
 | [] => Unit
 | [s] => s.T
 | s :: t :: r => s.T × ShsT (t :: r)
def Sh.toV:(s:Sh)→s.T→V
 | .int _, z => .i z
 | .bool, z => .b z
 | .str, z => .s z
 | .slice _, z => .l z
 | .own _ _, z => .l z
def Sh.ofV:(s:Sh)→V→Option s.T
 | .int _, .i z => Xa z
 | .bool, .b z => Xa z
 | .str, .s z => Xa z
 | .slice _, .l z => Xa z
 | .own _ _, .l z => Xa z
 | _, _ => Xe
def Zc4:(l:List Sh)→ShsT l→List V
 | [], _ => []
 | [s], x => [s.toV x]
 | s :: t :: r, x => s.toV x.1 :: Zc4 (t :: r) x.2
def Zqt:(l:List Sh)→List V→Option (ShsT l)
 | [], [] => Xa ()
 | [], _ :: _ => Xe
 | [s], [v] => s.ofV v
 | [_], [] => Xe
 | [_], _ :: _ :: _ => Xe
 | _ :: _ :: _, [] => Xe
 | s :: t :: r, v :: vs => match s.ofV v, Zqt (t :: r) vs with | some a, Xa b => Xa (a, b) | _, _ => Xe
def Zlw {s:Sh} {v:V} {x:s.T} (h:s.ofV v=Xa x):s.toV x=v:=by
 cases s<;>cases v<;>simp [Sh.ofV] at h<;>subst h<;>rfl
def ZgZ:∀ (l:List Sh) (vs:List V) (x:ShsT l),Zqt l vs=Xa x→Zc4 l x=vs
 | [], [], _, _ => rfl
 | [], _ :: _, _, h => by simp [Zqt] at h
 | [s], [v], x, h => by simp only [Zc4, Zlw (show s.ofV v = Xa x from h)]
 | [_], [], _, h => by simp [Zqt] at h
 | [_], _ :: _ :: _, _, h => by simp [Zqt] at h
 | _ :: _ :: _, [], _, h => by simp [Zqt] at h
 | s :: t :: r, v :: vs, x, h => by
  simp only [Zqt] at h;split at h
  ·rename_i a b c d;simp only [Xf] at h;subst h;simp only [Zc4,Zlw c,ZgZ (t::r) vs b d]
  ·cases h
def Sh.ofE:(s:Sh)→AV→Option s.T
 | .int k, .val (.int k' z) => if k' = k then Xa z else Xe
 | .bool, .val (.bool b) => Xa b
 | .str, .val (.string b) => Xa b
 | .slice s, .slice Xb s' xs => if s' = s then Xa xs else Xe
 | _, _ => Xe
def Zh6:(l:List Sh)→List AV→Option (ShsT l)
 | [], [] => Xa ()
 | [], _ :: _ => Xe
 | [s], [c] => s.ofE c
 | [_], [] => Xe
 | [_], _ :: _ :: _ => Xe
 | _ :: _ :: _, [] => Xe
 | s :: t :: r, c :: cs => match s.ofE c, Zh6 (t :: r) cs with | some a, Xa b => Xa (a, b) | _, _ => Xe
def Zm9 {s:Sh} {c:AV} {x:s.T} {n:Nat} {ρ:Nat→V} (h:s.ofE c=Xa x) (a:ρ n=s.toV x):(YT s n).den ρ=c:=by
 unfold Sh.ofE at h;split at h
 ·split at h
  ·simp only [Xf] at h;subst h;rename_i b;subst b;simp only [YT,SC.den,IE.den,a,Sh.toV,V.int]
  ·cases h
 ·simp only [Xf] at h;subst h;simp only [YT,SC.den,BE.den,a,Sh.toV,V.bool]
 ·simp only [Xf] at h;subst h;simp only [YT,SC.den,SE.den,a,Sh.toV,V.str]
 ·split at h
  ·simp only [Xf] at h;subst h;rename_i b;subst b;simp only [YT,SC.den,LE.den,a,Sh.toV,V.list]
  ·cases h
 ·cases h
def Ziu:∀ (l:List Sh) (cs:List AV) (x:ShsT l) (n:Nat) (ρ:Nat→V),Zh6 l cs=Xa x→Ziy ρ n (Zc4 l x)→(Z9 l n).map (SC.den ρ)=cs
 | [], [], _, _, _, _, _ => rfl
 | [], _ :: _, _, _, _, h, _ => by simp [Zh6] at h
 | [s], [c], x, n, ρ, h, hf => by
  have d:=hf 0 _ (show (Zc4 [s] x)[0]? = Xa (s.toV x) from rfl);rw [UN] at d;simp only [Z9,Xn,X5,Zm9 (show s.ofE c=Xa x from h) d]
 | [_], [], _, _, _, h, _ => by simp [Zh6] at h
 | [_], _ :: _ :: _, _, _, _, h, _ => by simp [Zh6] at h
 | _ :: _ :: _, [], _, _, _, h, _ => by simp [Zh6] at h
 | s :: t :: r, c :: cs, x, n, ρ, h, hf => by
  simp only [Zh6] at h;split at h
  ·rename_i a b e f;simp only [Xf] at h;subst h;obtain ⟨d,g⟩:=Ziy.tail (show Ziy ρ n (s.toV a::Zc4 (t::r) b) from hf);have i:=Ziu (t::r) cs b (n+1) ρ f g;rw [Z9,Xn,Zm9 e d,i]
  ·cases h
def Zl {γ:Type} (p:Prop) [Decidable p] (x:Option γ):Option γ:=if p then x else Xe
def Zu {γ:Type} {p:Prop} {_:Decidable p} (h:p) (x:Option γ):Zl p x=x:=P4 h
def YM {γ:Type} {p:Prop} {_:Decidable p} {x:Option γ} {r:γ} (h:Zl p x=Xa r):p∧x=Xa r:=by
 unfold Zl at h;split at h
 ·exact ⟨‹_›,h⟩
 ·cases h
def ZqT:Value→Value→Bool
 | .int k z, .int k' z' => decide (k = k') && decide (z = z')
 | .bool b, .bool b' => b == b'
 | .string s, .string s' => decide (s = s')
 | _, _ => Xb
def Zc0 {a b:Value} (h:ZqT a b=Xc):a=b:=by
 unfold ZqT at h;split at h
 ·simp only [Xk,P5] at h;rw [h.1,h.2]
 ·rw [beq_iff_eq] at h;rw [h]
 ·rw [P5] at h;rw [h]
 ·cases h
def ZrZ {c:Type} (q:c→c→Bool):List c→List c→Bool
 | [], [] => Xc
 | a :: aZ, b :: bs => q a b && ZrZ q aZ bs
 | _, _ => Xb
def KU {e:Type} {q:e→e→Bool} (f:∀ a b,q a b=Xc→a=b):∀ (c d:List e),ZrZ q c d=Xc→c=d
 | [], [], _ => rfl
 | [], _ :: _, h => by cases h
 | _ :: _, [], h => by cases h
 | a :: c, b :: d, h => by
  simp only [ZrZ,Xk] at h;rw [f a b h.1,KU f c d h.2]
def Zvn:Nat→AV→AV→Bool
 | _, .val a, .val b => ZqT a b
 | n + 1, .slice f s xs, .slice f' s' ys => f == f' && (decide (s = s') && ZrZ (ZrZ (Zvn n)) xs ys)
 | _, _, _ => Xb
def ZjH:∀ (n:Nat) (a b:AV),Zvn n a b=Xc→a=b:=by
 intro n
 induction n with
 | zero =>
  intro a b h;unfold Zvn at h;split at h
  ·rw [Zc0 h]
  ·rename_i c;cases c
  ·cases h
 | succ n ih =>
  intro a b h;unfold Zvn at h;split at h
  ·rw [Zc0 h]
  ·rename_i c
   cases c
   simp only [Xk,beq_iff_eq,P5] at h;rw [h.1,h.2.1,KU (fun x y d=>KU ih x y d) _ _ h.2.2]
  ·cases h
open Classical in
noncomputable instance decLL:DecidableEq (List (List AV)):=fun a b=>if h:ZrZ (ZrZ (Zvn 8)) a b=Xc then isTrue (KU (fun x y hxy=>KU (ZjH 8) x y hxy) _ _ h) else propDecidable _
@[reducible] def Sh.dec:(s:Sh)→DecidableEq s.T
 | .int _ => inferInstanceAs (DecidableEq Int)
 | .bool => inferInstanceAs (DecidableEq Bool)
 | .str => inferInstanceAs (DecidableEq ByteArray)
 | .slice _ => decLL
 | .own _ _ => decLL
@[reducible] def decS:(l:List Sh)→DecidableEq (ShsT l)
 | [] => inferInstanceAs (DecidableEq Unit)
 | [s] => s.dec
 | s :: t :: r => @instDecidableEqProd _ _ s.dec (decS (t :: r))
def Zkn {γ:Type} [d:DecidableEq γ] (l:List (List AV)) (k:Bool→Option γ):Option γ:=
 match l with
 | [] => if k Xc = k Xb then k Xc else Xe
 | _ :: _ => k Xb
def ZmE {γ:Type} {d:DecidableEq γ} {l:List (List AV)} {k:Bool→Option γ} {r:γ} (h:Zkn l k=Xa r) (b:Bool) (a:b=Xc→l = []):k b=Xa r:=by
 unfold Zkn at h;split at h
 ·split at h
  ·rename_i c
   cases b
   ·rw [← c];exact h
   ·exact h
  ·cases h
 ·cases b
  ·exact h
  ·cases a rfl
def Zsy {γ:Type} {d:DecidableEq γ} {l:List (List AV)} {k:Bool→Option γ} {r:Option γ} (b:l = []→k Xc=r) (a:k Xb=r):Zkn l k=r:=by
 unfold Zkn;split
 ·rw [b rfl,a,P4 rfl]
 ·exact a
def Zn {γ:Type} (l:List (List AV)) (i:Int) (sh:List Sh) (k:ShsT sh→Option γ):Option γ:=
 if 0≤i then match l[i.toNat]? with | some cs=>(match Zh6 sh cs with | some r=>k r | none=>Xe) | none=>Xe else Xe
def JS {γ:Type} {l:List (List AV)} {i:Int} {sh:List Sh} {cs:List AV} {r:ShsT sh} (k:ShsT sh→Option γ) (a:0≤i) (b:l[i.toNat]? = Xa cs) (c:Zh6 sh cs=Xa r):Zn l i sh k=k r:=by
 simp only [Zn,a,if_true,b,c]
def Zkm {γ:Type} {l:List (List AV)} {i:Int} {sh:List Sh} {k:ShsT sh→Option γ} {x:γ} (h:Zn l i sh k=Xa x):0≤i∧∃ cs r,l[i.toNat]? = Xa cs∧Zh6 sh cs=Xa r∧k r=Xa x:=by
 unfold Zn at h;split at h
 ·refine ⟨‹_›,?_⟩;split at h
  ·split at h
   ·exact ⟨_,_,‹_›,‹_›,h⟩
   ·cases h
  ·cases h
 ·cases h
def Zdk {γ:Type} (F:(List V→Option γ)→List V→Option γ):Nat→List V→Option γ
 | 0 => fun _ => Xe
 | k + 1 => F (Zdk F k)
def ZG:Nat:=1208925819614629174706176
inductive AP where
 | c (s : Sh)
 | agg (l : List Sh)
 | box (l : List Sh)
 | gbox (l : List Sh)
 | clo (g : FuncId) (ds : List Nat)
 | ref (j q : Nat)
 | dead
def RSh.sh:RSh→List Sh
 | .c s => [s]
 | .agg l => l
 | .box l => l
def Yg:List AP→List Sh
 | [] => []
 | .box l :: r => l ++ Yg r
 | .gbox l :: r => l ++ Yg r
 | _ :: r => Yg r
def ZaW (rs:List RSh) (aps:List AP):List Sh:=rs.flatMap RSh.sh++Yg aps
structure Fun where
 args:List AP
 res:List RSh
 g:List V→Option (ShsT (ZaW res args))
def KJ (r:RSh) (us:List V) (j:Nat):AV:=
 match r with
 | .c s => Ki s (vAt us j)
 | .agg l => .agg (Jf l us j)
 | .box l => .box (Jf l us j)
def Yp:List RSh→List V→Nat→List AV
 | [], _, _ => []
 | r :: rs, us, j => KJ r us j :: Yp rs us (j + r.sh.length)
def Kx (rs:List RSh) (us:List V) (j:Nat):AV:=
 match rs with
 | [r] => KJ r us j
 | rs => .tuple (Yp rs us j)
def Jg:List AP→List V→Nat→List AV
 | [], _, _ => []
 | .box l :: r, us, j => .box (Jf l us j) :: Jg r us (j + l.length)
 | .gbox l :: r, us, j => .gbox (Jf l us j) :: Jg r us (j + l.length)
 | _ :: r, us, j => .dead :: Jg r us j
def AP.n:AP→Nat
 | .c _ => 1
 | .agg l => l.length
 | .box l => l.length
 | .gbox l => l.length
 | .clo _ _ => 0
 | .ref _ _ => 0
 | .dead => 0
def ZmL (a:AP) (us:List V) (j:Nat):AV:=
 match a with
 | .c s => Ki s (vAt us j)
 | .agg l => .agg (Jf l us j)
 | .box l => .box (Jf l us j)
 | .gbox l => .gbox (Jf l us j)
 | .clo g ds => .clo g ds
 | .ref j q => .mref j q
 | .dead => .dead
def KO:List AP→List V→Nat→List AV
 | [], _, _ => []
 | a :: r, us, j => ZmL a us j :: KO r us (j + a.n)
def Zhk (rs:List RSh):Nat:=(rs.flatMap RSh.sh).length
def Fun.Ok (P:Program) (f:FuncId) (S:Fun):Prop:=
 ∀ vs r,S.g vs=Xa r→J2 P f (KO S.args vs 0) (Kx S.res (Zc4 _ r) 0) (Jg S.args (Zc4 _ r) (Zhk S.res))
def ZmY (P:Program):List (FuncId×Fun)→Prop
 | [] => True
 | p :: r => p.2.Ok P p.1 ∧ ZmY P r
def AP.sig:AP→Option (FuncId×List Nat)
 | .clo g ds => Xa (g, ds)
 | .ref j q => Xa (1000000, [j, q])
 | _ => Xe
def SV.sig:SV→Option (FuncId×List Nat)
 | .clo g ds => Xa (g, ds)
 | .mref j q => Xa (1000000, [j, q])
 | _ => Xe
def Zlj:List (FuncId×Fun)→FuncId→List (FuncId×List Nat)→Option Fun
 | [], _, _ => Xe
 | p :: r, f, sg => if p.1 = f ∧ p.2.args.filterMap AP.sig = sg then Xa p.2 else Zlj r f sg
def Ziw {P:Program} : ∀ {Φ:List (FuncId×Fun)} {f:FuncId} {b:List (FuncId×List Nat)} {S:Fun},ZmY P Φ→Zlj Φ f b=Xa S→S.Ok P f
 | [], _, _, _, _, h => by simp [Zlj] at h
 | p :: r, f, b, S, ho, h => by
  simp only [Zlj] at h;split at h
  ·rename_i a;simp only [Xf] at h;obtain ⟨a,_⟩:=a;subst a;subst h;exact ho.1
  ·exact Ziw ho.2 h
def Zsf (P:Program):Sh→AV→Option V
 | .int k, .val (.int k' z) => if k' = k then Xa (.i z) else Xe
 | .bool, .val (.bool b) => Xa (.b b)
 | .str, .val (.string s) => Xa (.s s)
 | .slice s, .slice _ s' xs => if s' = s then Xa (.l xs) else (match xs with | [] => Xa (.l []) | _ :: _ => Xe)
 | .slice s, .own x e xs => if P.cellsOf e = s then (match x, xs with | false, xs => Xa (.l xs) | true, [] => Xa (.l []) | true, _ :: _ => Xe) else Xe
 | .own x e, .own x' e' xs => if e' = e then (match x, x', xs with | false, Xb, xs => Xa (.l xs) | true, Xc, xs => Xa (.l xs) | _, _, [] => Xa (.l []) | _, _, _ :: _ => Xe) else Xe
 | .own _ _, .slice Xc _ xs => (match xs with | [] => Xa (.l []) | _ :: _ => Xe)
 | _, _ => Xe
def Zfz (P:Program):List Sh→List AV→Option (List V)
 | [], [] => Xa []
 | s :: ss, c :: cs => match Zsf P s c, Zfz P ss cs with | some v, Xa vs => Xa (v :: vs) | _, _ => Xe
 | _, _ => Xe
def Zs1 (P:Program):AP→AV→Option (List V)
 | .c s, x => (Zsf P s x).map fun v => [v]
 | .agg l, .agg cs => if l.all Sh.imm = Xc then Zfz P l cs else Xe
 | .box l, .box cs => Zfz P l cs
 | .gbox l, .gbox cs => Zfz P l cs
 | .clo g ds, .clo g' ds' => if g' = g ∧ ds' = ds then Xa [] else Xe
 | .ref j q, .mref j' q' => if j' = j ∧ q' = q ∧ q ≠ 0 then Xa [] else Xe
 | .dead, .dead => Xa []
 | _, _ => Xe
def Zcl (P:Program):List AP→List AV→Option (List V)
 | [], [] => Xa []
 | a :: aZ, x :: xs => match Zs1 P a x, Zcl P aZ xs with | some vs, Xa us => Xa (vs ++ us) | _, _ => Xe
 | _, _ => Xe
def ZmU {P:Program} {s:Sh} {c:AV} {v:V} (h:Zsf P s c=Xa v):YV P c (Ki s v):=by
 unfold Zsf at h;split at h
 ·split at h
  ·simp only [Xf] at h;subst h;rename_i a;subst a;exact .same (.inl rfl)
  ·cases h
 ·simp only [Xf] at h;subst h;exact .same (.inl rfl)
 ·simp only [Xf] at h;subst h;exact .same (.inl rfl)
 ·split at h
  ·simp only [Xf] at h;subst h;rename_i a;subst a;exact .imm
  ·split at h
   ·simp only [Xf] at h;subst h;exact .immN
   ·cases h
 ·split at h
  ·rename_i a;subst a;split at h
   ·simp only [Xf] at h;subst h;exact .own
   ·simp only [Xf] at h;subst h;exact .ownZ
   ·cases h
  ·cases h
 ·split at h
  ·rename_i a;subst a;split at h
   ·simp only [Xf] at h;subst h;exact .same (.inr ⟨_,_,_,rfl⟩)
   ·simp only [Xf] at h;subst h;exact .same (.inr ⟨_,_,_,rfl⟩)
   ·simp only [Xf] at h;subst h;exact .ownN
   ·cases h
  ·cases h
 ·split at h
  ·simp only [Xf] at h;subst h;exact .give
  ·cases h
 ·cases h
def ZbD {P:Program} : ∀ (l:List Sh) (cs:List AV) (vs:List V),Zfz P l cs=Xa vs→vs.length=l.length∧cs.length=l.length∧∀ b a:List V,
  ∀ (i:Nat) (c f:AV),cs[i]? = Xa c→(Jf l (b++vs++a) b.length)[i]? = Xa f→YV P c f
 | [], [], vs, h => by
  simp only [Zfz,Xf] at h;subst h;exact ⟨rfl,rfl,fun _ _ i c f h=>by simp at h⟩
 | [], _ :: _, _, h => by simp [Zfz] at h
 | _ :: _, [], _, h => by simp [Zfz] at h
 | s :: ss, c :: cs, us, h => by
  simp only [Zfz] at h;split at h
  ·rename_i v vs j g;simp only [Xf] at h;subst h;obtain ⟨k,m,o⟩:=ZbD (P:=P) ss cs vs g;refine ⟨by simp [k],by simp [m],fun b a i p q e d=>?_⟩
   cases i with
   | zero =>
    simp only [Jf,XM,Xf] at e d;subst e;subst d;rw [XB,X8,VA];exact ZmU j
   | succ i =>
    have:=o (b++[v]) a i p q (by simpa using e);simp only [XB,X8,X9,XD,XO,Ui] at this;simp only [Jf,Uv,XB,X8] at d;exact this d
  ·cases h
def ZqM {P:Program} {a:AP} {x:AV} {vs:List V} (h:Zs1 P a x=Xa vs):vs.length=a.n∧((∃ g ds,a = .clo g ds∧x = .clo g ds)∨(∃ j q,a = .ref j q∧x = .mref j q)∨∀ c b:List V,Y5 P x (ZmL a (c++vs++b) c.length)):=by
 unfold Zs1 at h;split at h
 ·cases hd:Zsf P _ x with
  | none => rw [hd] at h; cases h
  | some v =>
   rw [hd] at h;simp only [XA,Xf] at h;subst h;refine ⟨rfl,.inr<|.inr fun c b=>?_⟩;simp only [ZmL,XB,X8,X9,VA];exact .comp (.cell (ZmU hd))
 ·rename_i l cs;split at h
  ·rename_i k;obtain ⟨d,e,f⟩:=ZbD (P:=P) _ _ _ h;exact ⟨d,.inr<|.inr fun c b=>.comp (.agg (by rw [e,JJ]) (Vf _ _ _ k) (f c b))⟩
  ·cases h
 ·obtain ⟨d,e,f⟩:=ZbD (P:=P) _ _ _ h;exact ⟨d,.inr<|.inr fun c b=>.box (by rw [e,JJ]) (f c b)⟩
 ·obtain ⟨d,e,f⟩:=ZbD (P:=P) _ _ _ h;exact ⟨d,.inr<|.inr fun c b=>.gbox (by rw [e,JJ]) (f c b)⟩
 ·split at h
  ·rename_i i;simp only [Xf] at h;subst h;obtain ⟨rfl,rfl⟩:=i;exact ⟨rfl,.inl ⟨_,_,rfl,rfl⟩⟩
  ·cases h
 ·split at h
  ·rename_i i;simp only [Xf] at h;subst h;obtain ⟨rfl,rfl,_⟩:=i;exact ⟨rfl,.inr (.inl ⟨_,_,rfl,rfl⟩)⟩
  ·cases h
 ·simp only [Xf] at h;subst h;exact ⟨rfl,.inr<|.inr fun _ _=>.dead⟩
 ·cases h
def Zee:∀ (l:List AP) (us:List V) (j:Nat),(KO l us j).length=l.length
 | [], _, _ => rfl
 | _ :: ss, us, j => by simp [KO, Zee ss us]
def Zjo {P:Program} : ∀ (f:List AP) (xs:List AV) (vs:List V),Zcl P f xs=Xa vs→xs.length=f.length∧∀ d b:List V,
  ∀ (i:Nat) (c l:AV),xs[i]? = Xa c→(KO f (d++vs++b) d.length)[i]? = Xa l→(∃ g ds,f[i]? = Xa (.clo g ds)∧c = .clo g ds∧l = .clo g ds)∨(∃ j q,f[i]? = Xa (.ref j q)∧c = .mref j q∧l = .mref j q)∨Y5 P c l
 | [], [], _, _ => ⟨rfl, fun _ _ i c l h => by simp at h⟩
 | [], _ :: _, _, h => by simp [Zcl] at h
 | _ :: _, [], _, h => by simp [Zcl] at h
 | a :: f, x :: xs, ws, h => by
  simp only [Zcl] at h;split at h
  ·rename_i vs us p m;simp only [Xf] at h;subst h;obtain ⟨r,o⟩:=ZqM (P:=P) p;obtain ⟨s,t⟩:=Zjo (P:=P) f xs us m;refine ⟨by simp [s],fun d b i u v k e=>?_⟩
   cases i with
   | zero =>
    simp only [KO,XM,Xf] at k e;subst k;subst e;rcases o with ⟨g,ds,rfl,rfl⟩ | ⟨j,q,rfl,rfl⟩ | o
    ·exact .inl ⟨g,ds,rfl,rfl,rfl⟩
    ·exact .inr (.inl ⟨j,q,rfl,rfl,rfl⟩)
    ·have:=o d (us++b);exact .inr (.inr (by simpa [XB] using this))
   | succ i =>
    have:=t (d++vs) b i u v (by simpa using k);rw [XD,r] at this;simp only [KO,Uv] at e;refine this ?_;simpa [XB] using e
  ·cases h
def WV (b:List AP):Bool:=b.all fun a=>match a with | .clo _ ds=>ds.all (fun d=>match b[d]? with | some (.gbox _)=>Xc | _=>Xb) | .ref j q=>(match b[j]? with | some (.gbox l)=>(HP.gbox l).isPl q | _=>Xb) | _=>Xc
def Zcb:∀ (c:List AP) (us:List V) (j i:Nat) (a:AP),c[i]? = Xa a→∃ k,(KO c us j)[i]? = Xa (ZmL a us k)
 | [], _, _, _, _, h => by simp at h
 | b :: c, us, j, 0, a, h => by
  simp only [XM,Xf] at h;subst h;exact ⟨j,rfl⟩
 | b :: c, us, j, i + 1, a, h => by
  obtain ⟨k,d⟩:=Zcb c us (j+b.n) i a (by simpa using h);exact ⟨k,by simpa [KO] using d⟩
def Zhx {P:Program} {b:List AP} {xs:List AV} {vs:List V} (e:WV b=Xc) (h:Zcl P b xs=Xa vs):Wm P xs (KO b vs 0):=by
 obtain ⟨r,s⟩:=Zjo (P:=P) b xs vs h;refine ⟨by rw [r,Zee],fun i c t u f=>?_⟩;rcases s [] [] i c t u (by simpa using f) with ⟨g,ds,k1,rfl,rfl⟩ | ⟨j,q,k1,rfl,rfl⟩ | hw
 case inr.inl=>
  refine .inr (.inr ⟨j,q,rfl,rfl,?_⟩);unfold WV at e;rw [XE] at e;have a:=e _ (Xo k1);simp only at a;split at a
  ·rename_i l m;obtain ⟨k,o⟩:=Zcb b vs 0 j _ m;simp only [Z5,o];exact Zip a vs k
  ·cases a
 ·refine .inr (.inl ⟨g,ds,rfl,rfl,fun d v=>?_⟩);unfold WV at e;rw [XE] at e;have a:=e _ (Xo k1);simp only at a;rw [XE] at a;have p:=a d v;split at p
  ·rename_i l m;obtain ⟨k,o⟩:=Zcb b vs 0 d _ m;simp only [Z5,o];rfl
  ·cases p
 ·exact .inl hw
def Zj8 (P:Program) (a:AP) (x:AV):AV:=
 match a,x with
 | .c (.slice _), .own Xc e xs => .own (Zv P e) e xs
 | .c (.own Xb _), .own Xc e xs => .own (Zv P e) e xs
 | _, x => x
def Zge (P:Program):List AP→List AV→List AV
 | a :: aZ, x :: xs => Zj8 P a x :: Zge P aZ xs
 | _, xs => xs
def ZbV (P:Program) (a:AP) (x:AV):Zj8 P a x=x∨∃ e xs,x = .own Xc e xs∧Zj8 P a x = .own Xb e xs∧Zv P e=Xb:=by
 unfold Zj8;split
 ·rename_i e xs
  cases h:Zv P e with
  | true => exact .inl rfl
  | false => exact .inr ⟨e, xs, rfl, rfl, h⟩
 ·rename_i e xs
  cases h:Zv P e with
  | true => exact .inl rfl
  | false => exact .inr ⟨e, xs, rfl, rfl, h⟩
 ·exact .inl rfl
def ZhR (a b:List AV) (x:AV) (i:Nat):Z5 (a++x::b) i=if i=a.length then x else Z5 (a++.dead::b) i:=by
 unfold Z5;by_cases hi:i=a.length
 ·subst hi;rw [P4 rfl,XG (Xt _),Nat.sub_self];rfl
 ·rw [P3 hi];by_cases hlt:i < a.length
  ·rw [XH hlt,XH hlt]
  ·rw [XG (by omega),XG (by omega)];obtain ⟨j,c⟩:∃ j,i-a.length=j+1:=⟨i-a.length-1,by omega⟩;rw [c,Uv,Uv]
def ZnF {P:Program} {w:World} {lim:Nat→Nat} {e:TypeId} {xs:List (List AV)} {v:Value} (h:Jt P w lim Xc e xs v Xe):Jt P w lim Xb e xs v Xe:=by
 rcases h with ⟨us,h1,h2,h3,h4,h5,h6⟩ | h | ⟨_,_,_,_,_,_,_,_,h,_⟩
 ·exact .inl ⟨us,h1,h2,fun b a=>(by cases a),h4,h5,h6⟩
 ·exact .inr (.inl h)
 ·cases h
def J2.freeze1 {P:Program} {f:FuncId} {a c:List AV} {e:TypeId} {xs:List (List AV)} {res:AV} {outs:List AV} (h:J2 P f (a++.own Xb e xs::c) res outs)
  (hn:∀ x∈a++c,∀ d,¬ Jz x d 0) (M:Zv P e=Xb):J2 P f (a++.own Xc e xs::c) res outs:=by
 refine ⟨h.1,fun w lim X l W y q A=>?_⟩;have g:∀ (b:Bool) (i:Nat),Z5 (a++.own b e xs::c) i=if i=a.length then .own b e xs else Z5 (a++.dead::c) i:=fun b i=>ZhR a c _ i
 have Y:∀ i d,i≠a.length→¬ Jz (Z5 (a++.dead::c) i) d 0:=by
  intro i d t p
  have C:Z5 (a++.dead::c) i = .dead∨Z5 (a++.dead::c) i∈a++c:=by
   unfold Z5
   cases C:(a++AV.dead::c)[i]? with
   | none => exact .inl rfl
   | some x =>
    have J:=Xo C;rw [Xq,Xr] at J;rcases J with J | rfl | J
    ·exact .inr (List.mem_append_left _ J)
    ·exact .inl rfl
    ·exact .inr (List.mem_append_right _ J)
  rcases C with C | C
  ·rw [C] at p;rcases p with p | ⟨_,p⟩ <;> cases p
  ·exact hn _ C d p
 have h0:=y a.length;rw [g,P4 rfl] at h0;have r:Jt P w lim Xc e xs (l.getD a.length undef) (X a.length 0):=h0
 obtain ⟨j,he,hk,N⟩:∃ j,Ext w lim w j∧(∀ b,X a.length 0≠Xa b→j b=lim b)∧Jt P w j Xb e xs (l.getD a.length undef) (X a.length 0):=by
  cases L:X a.length 0 with
  | none => rw [L] at r; exact ⟨lim, Ext.refl _ _, fun _ _ => rfl, ZnF r⟩
  | some b0 =>
   rw [L] at r
   have Z:lim b0=0:=by
    rcases r.noMap M with ⟨us,_,_,h3,_⟩ | ⟨_,h,_⟩
    ·rw [h3 b0 rfl];rfl
    ·cases h
   have z:Ext w lim w (Vv lim b0 (xs.length*P.cellsOf e)):=fun b _=>by
    refine ⟨?_,fun o u _ hu=>hu⟩;unfold Vv;split
    ·rename_i h;rw [h,Z];exact X7 _
    ·exact Xt _
   exact ⟨_,z,fun b D=>P3 fun e=>D (by rw [e]),ZcC r M z⟩
 have E:∀ i,Z2 P w j X (Z5 (a++.own Xb e xs::c)) i (Z5 (a++.own Xb e xs::c) i) (l.getD i undef):=by
  intro i;by_cases t:i=a.length
  ·subst t;rw [g,P4 rfl];exact N
  ·have h1:=y i;have D:Z5 (a++.own Xb e xs::c) i=Z5 (a++.own Xc e xs::c) i:=by rw [g,g,P3 t,P3 t]
   rw [D];refine Z2.chg (h1.mono he (fun k b L=>⟨rfl,hk b fun e=>t (q i k a.length 0 b L e).1⟩) fun O k b p _=>.of rfl) rfl (fun O cs s=>⟨⟨cs,?_⟩,rfl⟩) (fun O T=>⟨?_,rfl⟩) fun O k p=>?_
   ·rw [g] at s ⊢;split at s
    ·cases s
    ·rename_i G;rw [P3 G];exact s
   ·rw [g] at T ⊢;split at T
    ·cases T
    ·rename_i G;rw [P3 G];exact T
   ·rw [g,P3 t] at p;refine ⟨?_,rfl⟩;rw [g,g];by_cases s:O=a.length
    ·rw [P4 s,P4 s]
     cases k with
     | zero => exact (Y i O t p).elim
     | succ k => intro _ _ h; cases h
    ·rw [P3 s,P3 s];exact Wg.refl _ _
 have Q:(a++AV.own Xc e xs::c).countP AV.isG=(a++AV.own Xb e xs::c).countP AV.isG:=by
  simp [List.countP_append,Tf,AV.isG]
 have H:(a++AV.own Xc e xs::c).length=(a++AV.own Xb e xs::c).length:=by simp
 refine (h.2 w j X l (by rw [← Q,← H];exact W) E q A).mono ?_;rintro e' w' ⟨v,R,X',aa,m,ab,p,s,ac,ad⟩;refine ⟨v,R,X',aa,⟨m.os,m.tape,m.output,m.size,m.frz,fun b L S=>?_,he.trans m.ext (Xt _)⟩,by rw [ab,H],fun i=>by rw [H];exact p i,s,ac,fun i t=>?_⟩
 ·obtain ⟨k1,k2⟩:=m.blk b L S;exact ⟨k1,k2.trans (hk b fun e=>S ⟨_,_,e⟩)⟩
 ·obtain ⟨U,m2⟩:=ad i t;refine ⟨?_,m2⟩;rw [g] at U ⊢;split at U
  ·cases U
  ·rename_i ae;rw [P3 ae];exact U
def ZdA {P:Program} {d k:Nat} : ∀ (c:List AP) (xs:List AV),(∀ x∈Zge P c xs,¬ Jz x d k)→∀ x∈xs,¬ Jz x d k
 | [], xs, h => fun x b => h x (by cases xs <;> exact b)
 | _ :: _, [], _ => fun _ b => by cases b
 | a :: c, y :: ys, h => fun x b => by
  rcases Xr.1 b with rfl | b
  ·rcases ZbV P a x with e | ⟨_,_,rfl,_⟩
   ·have:=h (Zj8 P a x) (UX ..)
    rwa [e] at this
   ·rintro (h | ⟨_,h⟩)<;>cases h
  ·exact ZdA c ys (fun z f=>h z (UD _ f)) x b
def J2.freeze {P:Program} {f:FuncId} {res:AV} {outs:List AV} : ∀ (c:List AP) (xs b:List AV),J2 P f (b++Zge P c xs) res outs→(∀ x∈b++Zge P c xs,∀ d,¬ Jz x d 0)→J2 P f (b++xs) res outs
 | [], xs, b, h, _ => by cases xs <;> exact h
 | _ :: _, [], b, h, _ => h
 | a :: c, x :: xs, b, h, hn => by
  have i:=J2.freeze c xs (b++[Zj8 P a x]) (by simpa [Zge] using h) (by simpa [Zge] using hn);rw [XB,Tt] at i;rcases ZbV P a x with e | ⟨e,ys,rfl,e',hnm⟩
  ·rwa [e] at i
  ·rw [e'] at i;refine i.freeze1 (fun y g d=>?_) hnm;rcases Xq.1 g with g | g
   ·exact hn y (List.mem_append_left _ g) d
   ·exact ZdA c xs (fun z j=>hn z (List.mem_append_right _ (UD _ j)) d) y g
def ZkT {P:Program} {a:AP} {x:AV} {vs:List V} (h:Zs1 P a x=Xa vs) (d:Nat):¬ Jz x d 0:=by
 rintro (rfl | ⟨_,rfl⟩)<;>cases a
 case inl.ref j q=>
  simp only [Zs1] at h;split at h
  ·rename_i b;exact b.2.2 b.2.1.symm
  ·cases h
 all_goals simp [Zs1,Zsf] at h
 all_goals (rename_i s;cases s<;>simp [Zsf] at h)
def ZdI {P:Program} : ∀ (b:List AP) (xs:List AV) (vs:List V),Zcl P b xs=Xa vs→∀ x∈xs,∀ d,¬ Jz x d 0
 | _, [], _, _ => fun _ f => by cases f
 | [], _ :: _, _, h => by simp [Zcl] at h
 | a :: b, x :: xs, ws, h => by
  simp only [Zcl] at h;split at h
  ·rename_i vs us g c;intro y e d;rcases Xr.1 e with rfl | e
   ·exact ZkT g d
   ·exact ZdI b xs us c y e d
  ·cases h
def ZrM {γ:Type} (P:Program) (S:Fun) (a:List AV) (k:List V→Option γ):Option γ:=
 match Zcl P S.args (Zge P S.args a) with
 | some vs => (S.g vs).bind fun r => k (Zc4 _ r)
 | none => Xe
def Zkr {γ:Type} {S:Fun} {b:List AV} {k:List V→Option γ} {x:γ} {P:Program} (h:ZrM P S b k=Xa x):∃ vs r,Zcl P S.args (Zge P S.args b)=Xa vs∧S.g vs=Xa r∧k (Zc4 _ r)=Xa x:=by
 unfold ZrM at h;split at h
 ·rename_i vs a;rw [Option.bind_eq_some_iff] at h;obtain ⟨r,c,d⟩:=h;exact ⟨vs,r,a,c,d⟩
 ·cases h
def ZvI (s:Sh) (x:SC) (m:Nat):Bool:=
 match s,x with
 | .int k, .int k' (.var a) => decide (k' = k) && decide (a = m)
 | .bool, .bool (.var a) => decide (a = m)
 | .str, .str (.var a) => decide (a = m)
 | .slice s, .slice Xb s' (.var a) => decide (s' = s) && decide (a = m)
 | _, _ => Xb
def Zki:List Sh→List SC→Nat→Bool
 | [], [], _ => Xc
 | s :: ss, c :: cs, m => ZvI s c m && Zki ss cs (m + 1)
 | _, _, _ => Xb
def ZwS (r:RSh) (x:TC) (m:Nat):Bool:=
 match r,x with
 | .c s, .c x => ZvI s x m
 | .c (.own x e), .own x' e' (.var a) => (decide (e' = e) && decide (a = m)) && (x' == x)
 | .agg l, .agg cs => Zki l cs m
 | _, _ => Xb
def Zj0:List RSh→List TC→Nat→Bool
 | [], [], _ => Xc
 | r :: rs, x :: xs, m => ZwS r x m && Zj0 rs xs (m + r.sh.length)
 | _, _, _ => Xb
def Zw8:SV→Option TC
 | .c x => Xa (.c x)
 | .agg cs => Xa (.agg cs)
 | .own x e l => Xa (.own x e l)
 | _ => Xe
def ZyM (s:Sh) (x:BC) (m:Nat):Bool:=
 match s,x with
 | s, .c x => ZvI s x m
 | .own x e, .own x' e' (.var a) => (decide (e' = e) && decide (a = m)) && (x' == x)
 | _, _ => Xb
def ZgL:List Sh→List BC→Nat→Bool
 | [], [], _ => Xc
 | s :: ss, c :: cs, m => ZyM s c m && ZgL ss cs (m + 1)
 | _, _, _ => Xb
def Zy2 (rs:List RSh) (x:SV) (m:Nat):Bool:=
 match rs with
 | [r] => match r, x with | .box l, .box cs => ZgL l cs m | _, _ => match Zw8 x with | some y => ZwS r y m | none => Xb
 | rs => match x with | .tuple vs => Zj0 rs vs m | _ => Xb
def Vq:List AP→List SV→Nat→Bool
 | [], [], _ => Xc
 | .box l :: r, .box cs :: xs, m => ZgL l cs m && Vq r xs (m + l.length)
 | .gbox l :: r, .gbox cs :: xs, m => ZgL l cs m && Vq r xs (m + l.length)
 | .c _ :: r, .dead :: xs, m => Vq r xs m
 | .agg _ :: r, .dead :: xs, m => Vq r xs m
 | .clo _ _ :: r, .dead :: xs, m => Vq r xs m
 | .ref _ _ :: r, .dead :: xs, m => Vq r xs m
 | .dead :: r, .dead :: xs, m => Vq r xs m
 | _, _, _ => Xb
section
variable {ρ:Nat→V} {n:Nat} {us:List V}
def ZaD (j:Nat) (h:j < us.length):bind ρ n us (n+j)=vAt us j:=by
 unfold bind vAt;rw [P3 (by omega),show n+j-n=j by omega,Xm h];rfl
def Zes {s:Sh} {x:SC} {j:Nat} (h:ZvI s x (n+j)=Xc) (a:j < us.length):x.den (bind ρ n us)=Ki s (vAt us j):=by
 unfold ZvI at h;split at h
 ·simp only [Xk,P5] at h;obtain ⟨rfl,rfl⟩:=h;simp only [SC.den,IE.den,ZaD j a,Ki]
 ·simp only [P5] at h;subst h;simp only [SC.den,BE.den,ZaD j a,Ki]
 ·simp only [P5] at h;subst h;simp only [SC.den,SE.den,ZaD j a,Ki]
 ·simp only [Xk,P5] at h;obtain ⟨rfl,rfl⟩:=h;simp only [SC.den,LE.den,ZaD j a,Ki]
 ·cases h
def ZfM:∀ (l:List Sh) (cs:List SC) (j:Nat),Zki l cs (n+j)=Xc→j+l.length≤us.length→cs.map (SC.den (bind ρ n us))=Jf l us j
 | [], [], _, _, _ => rfl
 | [], _ :: _, _, h, _ => by simp [Zki] at h
 | _ :: _, [], _, h, _ => by simp [Zki] at h
 | s :: ss, c :: cs, j, h, hl => by
  simp only [Zki,Xk] at h;simp only [XO] at hl;rw [Xn,Jf,Zes h.1 (by omega),ZfM ss cs (j+1) (by rw [← Uy];exact h.2) (by omega)]
def ZiI {r:RSh} {x:TC} {j:Nat} (h:ZwS r x (n+j)=Xc) (a:j+r.sh.length≤us.length):x.den (bind ρ n us)=KJ r us j:=by
 unfold ZwS at h;split at h
 ·exact Zes h (by simp [RSh.sh] at a;omega)
 ·simp only [Xk,P5,beq_iff_eq] at h;obtain ⟨⟨rfl,rfl⟩,rfl⟩:=h;have b:j < us.length:=by simp [RSh.sh] at a;omega
  simp only [TC.den,LE.den,ZaD j b,KJ,Ki]
 ·simp only [TC.den,KJ,ZfM _ _ j h a]
 ·cases h
def Zf3:∀ (rs:List RSh) (xs:List TC) (j:Nat),Zj0 rs xs (n+j)=Xc→j+(rs.flatMap RSh.sh).length≤us.length→xs.map (TC.den (bind ρ n us))=Yp rs us j
 | [], [], _, _, _ => rfl
 | [], _ :: _, _, h, _ => by simp [Zj0] at h
 | _ :: _, [], _, h, _ => by simp [Zj0] at h
 | r :: rs, x :: xs, j, h, hl => by
  simp only [Zj0,Xk] at h;simp only [List.flatMap_cons,XD] at hl;rw [Xn,Yp,ZiI h.1 (by omega),Zf3 rs xs (j+r.sh.length) (by rw [← Uy];exact h.2) (by omega)]
def ZiV {x:SV} {y:TC} (h:Zw8 x=Xa y) (ρ:Nat→V):x.den ρ=y.den ρ:=by
 unfold Zw8 at h;split at h<;>simp at h<;>subst h<;>rfl
def Zpb {s:Sh} {x:BC} {j:Nat} (h:ZyM s x (n+j)=Xc) (a:j < us.length):x.den (bind ρ n us)=Ki s (vAt us j):=by
 unfold ZyM at h;split at h
 ·exact Zes h a
 ·simp only [Xk,P5,beq_iff_eq] at h;obtain ⟨⟨rfl,rfl⟩,rfl⟩:=h;simp only [BC.den,LE.den,ZaD j a,Ki]
 ·cases h
def Zab:∀ (l:List Sh) (cs:List BC) (j:Nat),ZgL l cs (n+j)=Xc→j+l.length≤us.length→cs.map (BC.den (bind ρ n us))=Jf l us j
 | [], [], _, _, _ => rfl
 | [], _ :: _, _, h, _ => by simp [ZgL] at h
 | _ :: _, [], _, h, _ => by simp [ZgL] at h
 | s :: ss, c :: cs, j, h, hl => by
  simp only [ZgL,Xk] at h;simp only [XO] at hl;rw [Xn,Jf,Zpb h.1 (by omega),Zab ss cs (j+1) (by rw [← Uy];exact h.2) (by omega)]
def ZnW {rs:List RSh} {x:SV} (h:Zy2 rs x n=Xc) (a:Zhk rs≤us.length):x.den (bind ρ n us)=Kx rs us 0:=by
 unfold Zy2 at h;split at h
 ·split at h
  ·rename_i l cs;have c:cs.map (BC.den (bind ρ n us))=Jf l us 0:=Zab l cs 0 h (by simpa [Zhk,RSh.sh] using a);simp only [SV.den,Kx,KJ,c]
  ·split at h
   ·rename_i y d;rw [ZiV d];exact ZiI (j:=0) h (by simpa [Zhk] using a)
   ·cases h
 ·rename_i b;split at h
  ·rename_i vs
   have:Kx rs us 0 = .tuple (Yp rs us 0):=by
    unfold Kx;split
    ·exact (b _ rfl).elim
    ·rfl
   rw [this];simp only [SV.den,Zf3 rs vs 0 h (by simpa [Zhk] using a)]
  ·cases h
def YN:∀ (aps:List AP) (xs:List SV) (j:Nat),Vq aps xs (n+j)=Xc→j+(Yg aps).length≤us.length→xs.map (SV.den (bind ρ n us))=Jg aps us j
 | [], [], _, _, _ => rfl
 | [], _ :: _, _, h, _ => by simp [Vq] at h
 | .box l :: r, x :: xs, j, h, hl => by
  cases x<;>simp [Vq] at h
  rename_i cs;simp only [Yg,XD] at hl;have b:cs.map (BC.den (bind ρ n us))=Jf l us j:=Zab l cs j h.1 (by omega);simp only [Xn,Jg,SV.den,b,YN r xs (j+l.length) (by rw [← Uy];exact h.2) (by omega)]
 | .gbox l :: r, x :: xs, j, h, hl => by
  cases x<;>simp [Vq] at h
  rename_i cs;simp only [Yg,XD] at hl;have b:cs.map (BC.den (bind ρ n us))=Jf l us j:=Zab l cs j h.1 (by omega);simp only [Xn,Jg,SV.den,b,YN r xs (j+l.length) (by rw [← Uy];exact h.2) (by omega)]
 | .c _ :: r, x :: xs, j, h, hl => by
  cases x<;>simp [Vq] at h
  simp only [Yg] at hl;simp only [Xn,Jg,SV.den,YN r xs j h hl]
 | .agg _ :: r, x :: xs, j, h, hl => by
  cases x<;>simp [Vq] at h
  simp only [Yg] at hl;simp only [Xn,Jg,SV.den,YN r xs j h hl]
 | .clo _ _ :: r, x :: xs, j, h, hl => by
  cases x<;>simp [Vq] at h
  simp only [Yg] at hl;simp only [Xn,Jg,SV.den,YN r xs j h hl]
 | .ref _ _ :: r, x :: xs, j, h, hl => by
  cases x<;>simp [Vq] at h
  simp only [Yg] at hl;simp only [Xn,Jg,SV.den,YN r xs j h hl]
 | .dead :: r, x :: xs, j, h, hl => by
  cases x<;>simp [Vq] at h
  simp only [Yg] at hl;simp only [Xn,Jg,SV.den,YN r xs j h hl]
 | a :: _, [], _, h, _ => by cases a <;> simp [Vq] at h
end
def Zil:∀ (l:List Sh) (x:ShsT l),(Zc4 l x).length=l.length
 | [], _ => rfl
 | [_], _ => rfl
 | _ :: t :: r, x => by simp [Zc4, Zil (t :: r) x.2]
def ZwF (P:Program) (r:RSh) (x:TC):Option (List VE):=
 match r,x with
 | .c s, .c x => (Zqz s x).map fun v => [v]
 | .c s, .own x e l => (ZcI P s x e l).map fun v => [v]
 | .agg l, .agg cs => if l.all Sh.imm = Xc then Zhd l cs else Xe
 | _, _ => Xe
def Zh8 (P:Program):List RSh→List TC→Option (List VE)
 | [], [] => Xa []
 | r :: rs, x :: xs => match ZwF P r x, Zh8 P rs xs with | some v, Xa vs => Xa (v ++ vs) | _, _ => Xe
 | _, _ => Xe
def ZyU (P:Program) (rs:List RSh) (x:SV):Option (List VE):=
 match rs with
 | [r] => match r, x with | .box l, .box cs => ZbW P l cs | _, _ => match Zw8 x with | some y => ZwF P r y | none => Xe
 | rs => match x with | .tuple vs => Zh8 P rs vs | _ => Xe
def Ve (P:Program):List AP→List SV→Option (List VE)
 | [], [] => Xa []
 | .box l :: r, .box cs :: xs => match ZbW P l cs, Ve P r xs with | some v, Xa vs => Xa (v ++ vs) | _, _ => Xe
 | .gbox l :: r, .gbox cs :: xs => match ZbW P l cs, Ve P r xs with | some v, Xa vs => Xa (v ++ vs) | _, _ => Xe
 | .c _ :: r, .dead :: xs => Ve P r xs
 | .agg _ :: r, .dead :: xs => Ve P r xs
 | .clo _ _ :: r, .dead :: xs => Ve P r xs
 | .ref _ _ :: r, .dead :: xs => Ve P r xs
 | .dead :: r, .dead :: xs => Ve P r xs
 | _, _ => Xe
def ZhO (P:Program) (aps:List AP) (rs:List RSh) (x:SV) (a:List SV):Option (List VE):=
 match ZyU P rs x,Ve P aps a with
 | some vs, Xa us => Xa (vs ++ us)
 | _, _ => Xe
section
variable {P:Program} {ρ:Nat→V}
def Zmu {r:RSh} {x:TC} {vs:List VE} (h:ZwF P r x=Xa vs):vs.length=r.sh.length∧∀ b a:List V,Zdb P (x.den ρ) (KJ r (b++vs.map (VE.den ρ)++a) b.length):=by
 unfold ZwF at h;split at h
 ·cases hd:Zqz _ _ with
  | none => rw [hd] at h; cases h
  | some v =>
   rw [hd] at h;simp only [XA,Xf] at h;subst h;refine ⟨rfl,fun b a=>?_⟩;simp only [KJ,Xn,X5,XB,X8,X9,VA];exact .cell (Zei hd)
 ·cases hd:ZcI P _ _ _ _ with
  | none => rw [hd] at h; cases h
  | some v =>
   rw [hd] at h;simp only [XA,Xf] at h;subst h;refine ⟨rfl,fun b a=>?_⟩;simp only [KJ,Xn,X5,XB,X8,X9,VA];exact .cell (ZcZ hd)
 ·split at h
  ·rename_i c;obtain ⟨d,e,f⟩:=Zew (P:=P) (ρ:=ρ) _ _ _ h;exact ⟨d,fun b a=>.agg (by rw [Xi,e,JJ]) (Vf _ _ _ c) (f b a)⟩
  ·cases h
 ·cases h
def Zbg:∀ (rs:List RSh) (us:List V) (j:Nat),(Yp rs us j).length=rs.length
 | [], _, _ => rfl
 | _ :: ss, us, j => by simp [Yp, Zbg ss us]
def Zir:∀ (rs:List RSh) (xs:List TC) (vs:List VE),Zh8 P rs xs=Xa vs→vs.length=(rs.flatMap RSh.sh).length∧xs.length=rs.length∧∀ b a:List V,
  ∀ (i:Nat) (c f:AV),(xs.map (TC.den ρ))[i]? = Xa c→(Yp rs (b++vs.map (VE.den ρ)++a) b.length)[i]? = Xa f→Zdb P c f
 | [], [], vs, h => by
  simp only [Zh8,Xf] at h;subst h;exact ⟨rfl,rfl,fun _ _ i c f h=>by simp at h⟩
 | [], _ :: _, _, h => by simp [Zh8] at h
 | _ :: _, [], _, h => by simp [Zh8] at h
 | r :: rs, x :: xs, us, h => by
  simp only [Zh8] at h;split at h
  ·rename_i v vs k g;simp only [Xf] at h;subst h;obtain ⟨j,l⟩:=Zmu (P:=P) (ρ:=ρ) k;obtain ⟨m,o,p⟩:=Zir rs xs vs g;refine ⟨by simp [j,m],by simp [o],fun b a i q s e d=>?_⟩
   cases i with
   | zero =>
    simp only [Yp,Xn,XM,Xf] at e d;subst e;subst d;have:=l b (vs.map (VE.den ρ)++a);simpa [XB] using this
   | succ i =>
    have:=p (b++v.map (VE.den ρ)) a i q s (by simpa using e);rw [XD,Xi,j] at this;simp only [Yp,Uv] at d;refine this ?_;simpa [XB] using d
  ·cases h
def Zrl {rs:List RSh} {x:SV} {vs:List VE} (h:ZyU P rs x=Xa vs):vs.length=Zhk rs∧∀ a:List V,Y5 P (x.den ρ) (Kx rs (vs.map (VE.den ρ)++a) 0):=by
 unfold ZyU at h;split at h
 ·split at h
  ·rename_i l cs;obtain ⟨b,d,e⟩:=Wa (P:=P) (ρ:=ρ) _ _ _ h;refine ⟨by simpa [Zhk,RSh.sh] using b,fun a=>?_⟩;have:=e [] a;exact .box (by rw [Xi,d,JJ]) (by simpa [Kx,KJ] using this)
  ·split at h
   ·rename_i y j;obtain ⟨b,d⟩:=Zmu (P:=P) (ρ:=ρ) h;refine ⟨by simpa [Zhk] using b,fun a=>?_⟩;rw [ZiV j];have:=d [] a;exact .comp (by simpa [Kx] using this)
   ·cases h
 ·rename_i f;split at h
  ·rename_i o;obtain ⟨b,d,e⟩:=Zir (P:=P) (ρ:=ρ) _ _ _ h;refine ⟨b,fun a=>?_⟩
   have:∀ us,Kx rs us 0 = .tuple (Yp rs us 0):=by
    intro us;unfold Kx;split
    ·exact (f _ rfl).elim
    ·rfl
   rw [this];refine .tuple (by rw [Xi,d,Zbg]) fun i c k m g=>e [] a i c k m ?_;simpa using g
  ·cases h
def Zb0:∀ (aps:List AP) (us:List V) (j:Nat),(Jg aps us j).length=aps.length
 | [], _, _ => rfl
 | a :: r, us, j => by cases a <;> simp [Jg, Zb0 r us]
def KB:∀ (aps:List AP) (xs:List SV) (vs:List VE),Ve P aps xs=Xa vs→vs.length=(Yg aps).length∧xs.length=aps.length∧∀ d b:List V,
  ∀ (i:Nat) (c k:AV),(xs.map (SV.den ρ))[i]? = Xa c→(Jg aps (d++vs.map (VE.den ρ)++b) d.length)[i]? = Xa k→Y5 P c k
 | [], [], vs, h => by
  simp only [Ve,Xf] at h;subst h;exact ⟨rfl,rfl,fun _ _ i c k h=>by simp at h⟩
 | [], _ :: _, _, h => by simp [Ve] at h
 | a :: _, [], _, h => by cases a <;> simp [Ve] at h
 | .box l :: r, x :: xs, us, h => by
  cases x<;>simp only [Ve,reduceCtorEq] at h
  split at h
  ·rename_i cs v vs y m;simp only [Xf] at h;subst h;obtain ⟨o,z,A⟩:=Wa (P:=P) (ρ:=ρ) _ _ _ y;obtain ⟨p,q,t⟩:=KB r xs vs m;refine ⟨by simp [o,p,Yg],by simp [q],fun d b i u w f e=>?_⟩
   cases i with
   | zero =>
    simp only [Jg,Xn,XM,Xf,SV.den] at f e;subst f;subst e;have:=A d (vs.map (VE.den ρ)++b);exact .box (by rw [Xi,z,JJ]) (by simpa [XB] using this)
   | succ i =>
    have:=t (d++v.map (VE.den ρ)) b i u w (by simpa using f);rw [XD,Xi,o] at this;simp only [Jg,Uv] at e;refine this ?_;simpa [XB] using e
  ·cases h
 | .gbox l :: r, x :: xs, us, h => by
  cases x<;>simp only [Ve,reduceCtorEq] at h
  split at h
  ·rename_i cs v vs y m;simp only [Xf] at h;subst h;obtain ⟨o,z,A⟩:=Wa (P:=P) (ρ:=ρ) _ _ _ y;obtain ⟨p,q,t⟩:=KB r xs vs m;refine ⟨by simp [o,p,Yg],by simp [q],fun d b i u w f e=>?_⟩
   cases i with
   | zero =>
    simp only [Jg,Xn,XM,Xf,SV.den] at f e;subst f;subst e;have:=A d (vs.map (VE.den ρ)++b);exact .gbox (by rw [Xi,z,JJ]) (by simpa [XB] using this)
   | succ i =>
    have:=t (d++v.map (VE.den ρ)) b i u w (by simpa using f);rw [XD,Xi,o] at this;simp only [Jg,Uv] at e;refine this ?_;simpa [XB] using e
  ·cases h
 | .c s :: r, x :: xs, us, h => by
  cases x<;>simp only [Ve,reduceCtorEq] at h
  exact retOs_dead (a:=.c s) r xs us (KB r xs us h) (fun _ _=>rfl) rfl
 | .agg l :: r, x :: xs, us, h => by
  cases x<;>simp only [Ve,reduceCtorEq] at h
  exact retOs_dead (a:=.agg l) r xs us (KB r xs us h) (fun _ _=>rfl) rfl
 | .clo g ds :: r, x :: xs, us, h => by
  cases x<;>simp only [Ve,reduceCtorEq] at h
  exact retOs_dead (a:=.clo g ds) r xs us (KB r xs us h) (fun _ _=>rfl) rfl
 | .ref g ds :: r, x :: xs, us, h => by
  cases x<;>simp only [Ve,reduceCtorEq] at h
  exact retOs_dead (a:=.ref g ds) r xs us (KB r xs us h) (fun _ _=>rfl) rfl
 | .dead :: r, x :: xs, us, h => by
  cases x<;>simp only [Ve,reduceCtorEq] at h
  exact retOs_dead (a:=.dead) r xs us (KB r xs us h) (fun _ _=>rfl) rfl
where
 retOs_dead {a:AP} (r:List AP) (xs:List SV) (us:List VE) (h:us.length=(Yg r).length∧xs.length=r.length∧∀ d b:List V,
   ∀ (i:Nat) (c k:AV),(xs.map (SV.den ρ))[i]? = Xa c→(Jg r (d++us.map (VE.den ρ)++b) d.length)[i]? = Xa k→Y5 P c k)
   (C:∀ vs j,Jg (a::r) vs j = .dead::Jg r vs j) (D:Yg (a::r)=Yg r):us.length=(Yg (a::r)).length∧(SV.dead::xs).length=(a::r).length∧∀ d b:List V,
   ∀ (i:Nat) (c k:AV),((SV.dead::xs).map (SV.den ρ))[i]? = Xa c→(Jg (a::r) (d++us.map (VE.den ρ)++b) d.length)[i]? = Xa k→Y5 P c k:=by
  obtain ⟨p,q,t⟩:=h;refine ⟨by rw [D];exact p,by simp [q],fun d b i u w f e=>?_⟩;rw [C] at e
  cases i with
  | zero =>
   simp only [Xn,XM,Xf] at f e;subst e;exact .dead
  | succ i => exact t d b i u w (by simpa using f) (by simpa using e)
def ZjK {aps:List AP} {rs:List RSh} {x:SV} {g:List SV} {vs:List VE} (h:ZhO P aps rs x g=Xa vs) :
  Wm P (g.map (SV.den ρ)++[x.den ρ]) (Jg aps (vs.map (VE.den ρ)) (Zhk rs)++[Kx rs (vs.map (VE.den ρ)) 0]):=by
 unfold ZhO at h;split at h
 ·rename_i a b j k;simp only [Xf] at h;subst h;obtain ⟨l,m⟩:=Zrl (ρ:=ρ) j;obtain ⟨s,o,p⟩:=KB (P:=P) (ρ:=ρ) _ _ _ k;have e:(g.map (SV.den ρ)).length=(Jg aps ((a++b).map (VE.den ρ)) (Zhk rs)).length:=by rw [Xi,o,Zb0]
  refine ⟨by simp only [XD,e,XO,Ui],fun i c q f d=>?_⟩;by_cases hi:i < (g.map (SV.den ρ)).length
  ·rw [XH hi] at f;rw [XH (by rw [← e];exact hi)] at d;have:=p (a.map (VE.den ρ)) [] i c q f;rw [Xi,l] at this;exact .inl (this (by simpa using d))
  ·rw [XG (by omega)] at f;rw [XG (by rw [← e];omega),← e] at d
   have r:i-(g.map (SV.den ρ)).length=0:=by
    have:=(Xx.1 f).1;simp only [XO,Ui] at this;omega
   rw [r] at f d;simp only [XM,Xf] at f d;subst f;subst d;rw [Us];exact .inl (m _)
 ·cases h
end
def ZlY {γ:Type} (A:Nat→List V→Option γ) (n:Nat) (B:List V→Option γ):Nat→List V→Option γ:=fun i vs=>if i=n then B vs else A i vs
def STree.run (P:Program) (Φ:List (FuncId×Fun)) (aps:List AP) (rs:List RSh):STree→(Nat→List V→Option (ShsT (ZaW rs aps)))→(Nat→V)→Option (ShsT (ZaW rs aps))
 | .stuck _, _, _ => Xe
 | .branch b t e, A, ρ => if b.den ρ = Xc then t.run P Φ aps rs A ρ else e.run P Φ aps rs A ρ
 | .req p t, A, ρ => @Zl _ (p.den ρ) (p.decDen ρ) (t.run P Φ aps rs A ρ)
 | .elem l i sh n t, A, ρ => Zn (l.den ρ) (i.den ρ) sh fun r => t.run P Φ aps rs A (bind ρ n (Zc4 sh r))
 | .nilq l n t, A, ρ => @Zkn _ (decS _) (l.den ρ) fun b => t.run P Φ aps rs A (bind ρ n [.b b])
 | .call f args res outs n _ t, A, ρ =>
  match Zlj Φ f (args.filterMap SV.sig) with
  | some S => if Zy2 S.res res n = Xc ∧ Vq S.args outs (n + Zhk S.res) = Xc ∧ WV S.args = Xc then ZrM P S (args.map (SV.den ρ)) fun us => t.run P Φ aps rs A (bind ρ n us) else Xe
  | none => Xe
 | .loop lv init n t, A, ρ => Zdk (fun a vs => t.run P Φ aps rs (ZlY A lv a) (bind ZfZ n vs)) ZG (init.map (VE.den ρ))
 | .again lv vals, A, ρ => A lv (vals.map (VE.den ρ))
 | .ret res outs, _, ρ => match ZhO P aps rs res outs with | some vs => Zqt _ (vs.map (VE.den ρ)) | none => Xe
def Zx8 {p:Nat→Prop} (h:∃ k,p k):∃ k,p k∧∀ j,j < k→¬ p j:=by
 obtain ⟨k,c⟩:=h
 induction k using Nat.strongRecOn with
 | _ k ih =>
  by_cases hj:∃ j,j < k∧p j
  ·obtain ⟨j,a,b⟩:=hj;exact ih j a b
  ·exact ⟨k,c,fun j a b=>hj ⟨j,a,b⟩⟩
section
variable {P:Program} {Φ:List (FuncId×Fun)} {aps:List AP} {rs:List RSh}
def Zba (a:ZmY P Φ) {r:ShsT (ZaW rs aps)} {R:AV→List AV→Prop} (g:∀ x H,Wm P (H++[x]) (Jg aps (Zc4 _ r) (Zhk rs)++[Kx rs (Zc4 _ r) 0])→R x H) :
  ∀ (t:STree) (A':Nat→List V→Option (ShsT (ZaW rs aps))) (A:Nat→List V→Prop) (ρ:Nat→V),(∀ lv vs,A' lv vs=Xa r→A lv vs)→t.run P Φ aps rs A' ρ=Xa r→t.wp P R A ρ
 | .stuck _, _, _, _, _, h => by simp [STree.run] at h
 | .branch b t e, A', A, ρ, hA, h => by
  simp only [STree.run] at h;refine ⟨fun s=>?_,fun s=>?_⟩
  ·rw [P4 s] at h;exact Zba a g t A' A ρ hA h
  ·rw [P3 (by rw [s];exact Bool.false_ne_true)] at h;exact Zba a g e A' A ρ hA h
 | .req p t, A', A, ρ, hA, h => by
  obtain ⟨c,o⟩:=YM (show @Zl _ (p.den ρ) (p.decDen ρ) (t.run P Φ aps rs A' ρ)=Xa r from h);exact ⟨c,Zba a g t A' A ρ hA o⟩
 | .elem l i sh n t, A', A, ρ, hA, h => by
  obtain ⟨L,cs,x,c,o,y⟩:=Zkm (show Zn (l.den ρ) (i.den ρ) sh (fun r=>t.run P Φ aps rs A' (bind ρ n (Zc4 sh r)))=Xa r from h);refine ⟨Zc4 sh x,L,?_,Zba a g t A' A _ hA y⟩;rw [c,Ziu sh cs x n _ o (Ziy.bind ρ n _)]
 | .nilq l n t, A', A, ρ, hA, h => fun b s => Zba a g t A' A _ hA (ZmE (show @Zkn _ (decS _) (l.den ρ) (fun b => t.run P Φ aps rs A' (bind ρ n [.b b])) = Xa r from h) b s)
 | .call f args res outs n sh t, A', A, ρ, hA, h => by
  simp only [STree.run] at h;split at h
  ·rename_i S M;split at h
   ·rename_i d;obtain ⟨vs,x,c,o,y⟩:=Zkr h;have J:=Zil _ x;have N:(ZaW S.res S.args).length=Zhk S.res+(Yg S.args).length:=by simp [ZaW,Zhk]
    refine ⟨Zc4 _ x,?_,Zba a g t A' A _ hA y⟩;rw [ZnW d.1 (by omega),YN S.args outs (Zhk S.res) d.2.1 (by omega)];exact J2.freeze S.args _ [] ((Ziw a M vs x o).stronger (Zhx d.2.2 c)) (ZdI _ _ _ c)
   ·cases h
  ·cases h
 | .loop lv init n t, A', A, ρ, hA, h => by
  let F:=fun (z:List V→Option (ShsT (ZaW rs aps))) vs=>t.run P Φ aps rs (ZlY A' lv z) (bind ZfZ n vs)
  have O:Zdk F ZG (init.map (VE.den ρ))=Xa r:=h
  have v:∀ vs,∃ m:Nat,(∃ k,Zdk F k vs=Xa r)→Zdk F m vs=Xa r∧∀ j,Zdk F j vs=Xa r→m≤j:=by
   intro vs;by_cases w:∃ k,Zdk F k vs=Xa r
   ·obtain ⟨m,c,o⟩:=Zx8 w;exact ⟨m,fun _=>⟨c,fun j Q=>Nat.le_of_not_lt fun C=>o j C Q⟩⟩
   ·exact ⟨0,fun h=>(w h).elim⟩
  obtain ⟨m,v⟩:=TE v;refine ⟨fun vs=>∃ k,Zdk F k vs=Xa r,m,⟨ZG,O⟩,fun vs _ w=>?_⟩;obtain ⟨c,o⟩:=v vs w
  cases hmv:m vs with
  | zero => rw [hmv] at c; cases c
  | succ j =>
   rw [hmv] at c;refine Zba a g t (ZlY A' lv (Zdk F j)) _ _ (fun D u q=>?_) c;unfold ZlY at q;unfold Zuu;split at q
   ·rename_i E;rw [P4 E];refine ⟨⟨j,q⟩,?_⟩;have:=(v u ⟨j,q⟩).2 j q;omega
   ·rename_i E;rw [P3 E];exact hA D u q
 | .again lv vals, A', A, ρ, hA, h => hA lv _ h
 | .ret res outs, A', A, ρ, hA, h => by
  simp only [STree.run] at h;split at h
  ·rename_i vs G;refine g _ _ ?_;rw [ZgZ _ _ _ h];exact ZjK G
  ·cases h
end
abbrev LL:Type:=List (List AV)
abbrev E0:LL:=[]
def Zvb (l:List (List AV)):Prop:=∀ e∈l,∃ n:Int,0≤n∧n≤255∧e = [.val (.int .u8 n)]
def ZB (a b:List (List AV)) (k:Nat):Prop:=(a.length+b.length)*(k+1)≤Jr
def Zfg (a:Int) (k:Nat):Prop:=0≤a∧a.toNat*(k+1)≤Jr
instance (l:List (List AV)):Decidable (Zvb l):=Zis l
instance (a b:List (List AV)) (k:Nat):Decidable (ZB a b k):=inferInstanceAs (Decidable ((a.length+b.length)*(k+1)≤Jr))
instance (a:Int) (k:Nat):Decidable (Zfg a k):=inferInstanceAs (Decidable (0≤a∧a.toNat*(k+1)≤Jr))
instance (l:List (List AV)):Decidable (l≠[]):=ZlM l
def CQ:(∀ a b:Int,(P0 .lss a b=Xc)=(a < b))∧(∀ a b:Int,(P0 .lss a b=Xb)=(b≤a))∧(∀ a b:Int,(P0 .leq a b=Xc)=(a≤b))∧(∀ a b:Int,(P0 .leq a b=Xb)=(b < a))∧
  (∀ a b:Int,(P0 .gtr a b=Xc)=(b < a))∧(∀ a b:Int,(P0 .gtr a b=Xb)=(a≤b))∧(∀ a b:Int,(P0 .geq a b=Xc)=(b≤a))∧(∀ a b:Int,(P0 .geq a b=Xb)=(a < b))∧
  (∀ a b:Int,(P0 .eql a b=Xc)=(a=b))∧(∀ a b:Int,(P0 .eql a b=Xb)=(a≠b))∧(∀ a b:Int,(P0 .neq a b=Xc)=(a≠b))∧(∀ a b:Int,(P0 .neq a b=Xb)=(a=b))∧
  (∀ b:Bool,(¬b=Xc)=(b=Xb))∧(∀ b:Bool,(¬b=Xb)=(b=Xc))∧(∀ b:Bool,((!b)=Xc)=(b=Xb))∧(∀ b:Bool,((!b)=Xb)=(b=Xc))∧
  (∀ a b:Bool,((a&&b)=Xc)=(a=Xc∧b=Xc))∧(∀ a b:Bool,((a||b)=Xc)=(a=Xc∨b=Xc))∧(∀ {p:Prop} [Decidable p],(decide p=Xc)=p)∧(∀ {p:Prop} {_:Decidable p},decide p=Xb↔¬p)∧
  ((Xb=Xc)=False)∧((Xc=Xb)=False)∧(∀ {c d:Type} (a:c) (f:c→Option d),(Xa a).bind f=f a)∧(∀ {c:Type} (x y:c),(Xa x=Xa y)=(x=y))∧
  (∀ p:Prop,(False↔p) = ¬p)∧(∀ p:Prop,(True↔p)=p)∧(∀ p:Prop,(p↔False) = ¬p)∧(∀ p:Prop,(p↔True)=p):=
 ⟨ZV,ZW,ZS,ZR,ZT,ZP,ZY,ZU,ZQ,ZX,Z0,ZZ,Bool.not_eq_true,Bool.not_eq_false,XJ,Bool.not_eq_false',Xk,XX,
  @decide_eq_true_eq,@decide_eq_false_iff_not,XQ,Bool.true_eq_false,@Option.bind_some,@Option.some.injEq,false_iff,true_iff,iff_false,iff_true⟩
def ZE {d:Type} {c:Prop} [Decidable c] {a b x:d} (e:c→a=x) (f:¬ c→b=x):(if c then a else b)=x:=by
 by_cases h:c
 ·rw [P4 h];exact e h
 ·rw [P3 h];exact f h
def STree.next:STree→STree
 | .branch _ t _ => t
 | .req _ t => t
 | .elem _ _ _ _ t => t
 | .nilq _ _ t => t
 | .call _ _ _ _ _ _ t => t
 | .loop _ _ _ t => t
 | t => t
def STree.other:STree→STree
 | .branch _ _ e => e
 | t => t
def STree.nexts:Nat→STree→STree
 | 0, t => t
 | k + 1, t => STree.nexts k t.next
def STree.go:STree→List Nat→STree
 | t, [] => t
 | t, 0 :: p => t.next.go p
 | t, 1 :: p => t.other.go p
 | t, k :: p => (STree.nexts k t).go p
@[reducible] def d2 {a b γ:Type} (r:a×b×γ):γ:=r.2.2
@[reducible] def d4 {b c γ d a:Type} (r:b×c×γ×d×a):a:=r.2.2.2.2
@[reducible] def d8 {a b c d e f g h i:Type} (r:a×b×c×d×e×f×g×h×i):i:=d4 (d4 r)
@[reducible] def P2 {a b c d e f g h i j k l m n o p q:Type} (r:a×b×c×d×e×f×g×h×i×j×k×l×m×n×o×p×q):q:=d8 (d8 r)
@[reducible] def d6 {a b c d e f g:Type} (r:a×b×c×d×e×f×g):g:=d2 (d4 r)
@[reducible] def df {a b c d e f g h i a1 b1:Type} (r:a×b×c×d×e×f×g×h×i×a1×b1):b1:=d2 (d8 r)
@[reducible] def dg {a b c d e f g h i a1 b1 c1 d1:Type} (r:a×b×c×d×e×f×g×h×i×a1×b1×c1×d1):d1:=d4 (d8 r)
@[reducible] def dh {a b c d e f g h i a1 b1 c1 d1 e1 f1:Type} (r:a×b×c×d×e×f×g×h×i×a1×b1×c1×d1×e1×f1):f1:=d2 (d4 (d8 r))
@[reducible] def di {a b c d e f g h i a1 b1 c1 d1 e1 f1 g1 h1 i1 a2 b2 c2 d2 e2 f2 g2 h2 i2 a3 b3 c3 d3 e3 f3:Type} (r:a×b×c×d×e×f×g×h×i×a1×b1×c1×d1×e1×f1×g1×h1×i1×a2×b2×c2×d2×e2×f2×g2×h2×i2×a3×b3×c3×d3×e3×f3):f3:=P2 (P2 r)
@[reducible] def dj {a b c d e f g h i a1 b1 c1 d1 e1 f1 g1 h1 i1 a2 b2 c2 d2 e2 f2 g2 h2 i2 a3 b3 c3 d3 e3 f3 g3 h3 i3 a4 b4 c4 d4 e4 f4 g4 h4 i4 a5 b5 c5 d5:Type} (r:a×b×c×d×e×f×g×h×i×a1×b1×c1×d1×e1×f1×g1×h1×i1×a2×b2×c2×d2×e2×f2×g2×h2×i2×a3×b3×c3×d3×e3×f3×g3×h3×i3×a4×b4×c4×d4×e4×f4×g4×h4×i4×a5×b5×c5×d5):d5:=P2 (di r)
@[reducible] def dk {a b c d e f g h i a1 b1 c1 d1 e1 f1 g1 h1 i1 a2 b2 c2 d2 e2 f2 g2 h2 i2 a3 b3 c3 d3 e3 f3 g3 h3 i3 a4 b4 c4 d4 e4 f4 g4 h4 i4 a5 b5 c5 d5 e5 f5 g5 h5 i5 a6 b6 c6 d6 e6 f6 g6 h6 i6 a7 b7:Type} (r:a×b×c×d×e×f×g×h×i×a1×b1×c1×d1×e1×f1×g1×h1×i1×a2×b2×c2×d2×e2×f2×g2×h2×i2×a3×b3×c3×d3×e3×f3×g3×h3×i3×a4×b4×c4×d4×e4×f4×g4×h4×i4×a5×b5×c5×d5×e5×f5×g5×h5×i5×a6×b6×c6×d6×e6×f6×g6×h6×i6×a7×b7):b7:=P2 (dj r)
@[reducible] def dl {a b c d e f g h i a1 b1 c1 d1 e1 f1 g1 h1 i1 a2 b2 c2 d2 e2 f2 g2 h2 i2 a3 b3 c3 d3 e3 f3 g3 h3 i3 a4 b4 c4 d4 e4 f4 g4 h4 i4 a5 b5 c5 d5 e5 f5 g5 h5 i5 a6 b6 c6 d6 e6 f6 g6 h6 i6 a7 b7 c7 d7 e7 f7 g7 h7 i7 a8 b8 c8 d8 e8 f8 g8 h8 i8:Type} (r:a×b×c×d×e×f×g×h×i×a1×b1×c1×d1×e1×f1×g1×h1×i1×a2×b2×c2×d2×e2×f2×g2×h2×i2×a3×b3×c3×d3×e3×f3×g3×h3×i3×a4×b4×c4×d4×e4×f4×g4×h4×i4×a5×b5×c5×d5×e5×f5×g5×h5×i5×a6×b6×c6×d6×e6×f6×g6×h6×i6×a7×b7×c7×d7×e7×f7×g7×h7×i7×a8×b8×c8×d8×e8×f8×g8×h8×i8):i8:=P2 (dk r)
def AP.hp:AP→HP
 | .c s => .c s
 | .agg l => .agg l
 | .box l => .box l
 | .gbox l => .gbox l
 | .clo g ds => .clo g ds
 | .ref j q => .mref j q
 | .dead => .dead
def Zad:List AP→Nat→List SV
 | [], _ => []
 | a :: r, n => ZnT a.hp n :: Zad r (n + a.n)
def Zta:List AP→Nat
 | [] => 0
 | a :: r => a.n + Zta r
def apsFine (l:List AP):Bool:=l.all fun a=>a.hp.fine
def Zob (a:AP) (us:List V) (j:Nat):ZmL a us j=Wf a.hp us j:=by cases a<;>rfl
def Zd7:∀ (l:List AP) (n:Nat) (us:List V),apsFine l=Xc→(Zad l n).map (SV.den (Zwd us))=KO l us n
 | [], _, _, _ => rfl
 | a :: r, n, us, h => by
  simp only [apsFine,UV,Xk] at h;rw [Zad,Xn,KO,Zob,Zl6 (m:=n) h.1 (ρ:=Zwd us) (us:=us) (fun j _=>rfl),Zd7 r (n+a.n) us h.2]
def Zga:∀ (l:List AP) (n:Nat),∀ x∈Zad l n,x.bd (n+Zta l)
 | [], _ => by simp [Zad]
 | a :: r, n => by
  intro x b;simp only [Zad,Xr] at b;rcases b with rfl | b
  ·have d:(ZnT a.hp n).bd (n+a.n):=by
    cases a with
    | c s => cases s <;> exact Ul n
    | agg l => exact Yb l n
    | box l => exact Yc l n
    | gbox l => exact Yc l n
    | clo g ds => trivial
    | ref j q => trivial
    | dead => trivial
   exact SV.bd_mono (by simp only [Zta];omega) _ d
  ·have:=Zga r (n+a.n) x b;rw [Zta,← Uy];exact this
section
variable {P:Program}
def fun_ok {Φ : List (FuncId × Fun)} {E : Env} (hm : P.follows .mixedOrders = Xc) (hps : EnvSound P E) {f : FuncId} {fn : Func} {S : Fun} {n : Nat} {T : STree} (hf : P.funcs[f]? = Xa fn) (hname : (fn.name == "runtime.NumGoroutine") = Xb)
  (hfine:apsFine S.args=Xc) (hn:Zta S.args=n) (eq:ZwR P E fn (Zad S.args 0) n=T) (hΦ:ZmY P Φ) (hg:∀ vs,S.g vs=T.run P Φ S.args S.res (fun _ _=>Xe) (Zwd vs)):S.Ok P f:=by
 intro vs r h;rw [hg] at h
 have:=callOk_ofR (R:=fun x os=>Wm P (os++[x]) (Jg S.args (Zc4 _ r) (Zhk S.res)++[Kx S.res (Zc4 _ r) 0])) hm hps hf hname (args:=Zad S.args 0) (n:=n) (ρ:=Zwd vs)
  (fun a ha=>by have:=Zga S.args 0 a ha;rwa [XW,hn] at this) (fun _ _ h=>h) (by rw [eq];exact Zba hΦ (fun _ _ h=>h) T _ _ _ (fun _ _ h=>by cases h) h)
 rw [Zd7 S.args 0 vs hfine] at this;exact this
end
end
end Go.AM
