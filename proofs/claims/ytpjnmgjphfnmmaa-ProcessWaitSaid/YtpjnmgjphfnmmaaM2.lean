import Derived.Test.YtpjnmgjphfnmmaaM1
import Derived.Laws.MakeOwn
import Derived.Laws.CopyRow
import Derived.Below
open Option renaming some→Xa,none→Xe,map_some→Xo,map_eq_some_iff→XU
open Bool renaming true→Xb,false→Xc,and_eq_true→Xs
open Option.some renaming injEq→Xf,inj→Xr
open List renaming map_cons→Xg,mem_of_getElem?→Xh,getElem?_eq_some_iff→Xi,mem_map→Xj,getElem?_map→Xk,mem_cons→Xl,replicate→Xm,getElem?_eq_getElem→Xp,length_map→Xq,mem_append→Xt,append_assoc→Xu,getElem?_append_left→Xv,getElem?_take→Xw,getElem?_append_right→Xy,map_nil→Xz,length_append→XA,getElem?_cons_zero→XB,mem_singleton→XC,all_eq_true→XE,getElem?_drop→XH,mem_iff_getElem?→XK,mem_of_mem_take→XO,cons_append→XP,length_take→XQ,nodup_cons→XS,mem_of_mem_drop→XW,nil_append→XX,eq_nil_of_length_eq_zero→XY,getElem?_set_self→X8,mem_replicate→Wd,range→Wf,getElem?_set_ne→Wg,length_nil→Wi,flatten_cons→Wj,getElem_mem→Wl,map_toArray→Wn,mem_or_eq_of_mem_set→Wo,ext_getElem?→Ua,getElem?_eq_none→Uc,length_drop→Ue,any_eq_true→Uk,take_of_length_le→Um,filterMap_cons→Up,flatten_append→Us,drop_of_length_le→Ut,size_toArray→Uu,mem_flatten→Uw,length_set→Ux,length_replicate→UO,mem_filterMap→UU,take_left→UX,getD_eq_getElem?_getD→UY,find?_eq_none→UZ,getElem?_toArray→Tc,mem_iff_getElem→Tn,set_eq_take_append_cons_drop→Tw
open Prod.mk renaming injEq→Xn
open Nat renaming lt_or_ge→Xx,le_refl→XD,zero_add→XF,lt_of_lt_of_le→XI,mul_le_mul_right→XN,le_add_right→XR,le_trans→XV,add_sub_cancel→X4,succ_mul→X9,add_mul→Wb,zero_le→Wh,add_zero→Wq,mul_one→Uo,mul_le_mul_left→UW,add_sub_cancel_left→U9,eq_of_mul_eq_mul_right→Tm
open Array renaming toList_inj→XG,getElem?_eq_getElem→XZ,getElem?_eq_some_iff→Wa,toArray_toList→Ui,length_toList→Uj,getElem?_modify→U0,toList_append→Tl
set_option linter.unusedVariables false
set_option linter.unusedSimpArgs false
set_option linter.defProp false
namespace Go.AM
theorem JA {P:Program} {o:Oper} {a:Act} {w w':World} {next:Act→World→Prop} {Q:Exit→Act→World→Prop}
  (hr:(execOp a.eval o).run P w = .ok .skip w') (h:next (a.put o.dst undef) w'):o.wp P a w next Q:=by
 unfold Oper.wp;rw [hr];exact h
theorem Yj (w:World) (g:Nat) (cur cs:Array Value) (t:TypeId) (hg:w.heap[g]? = Xa (.cells cur t (0,0))) (a:Addr):(w.setRow g cs).frozen? a=w.frozen? a:=by
 by_cases h:a.block=g
 ·have h1:=setRow_heap w g cur cs t (0,0) hg
  unfold World.frozen?
  rw [h,h1,hg]
 ·unfold World.frozen?
  rw [setRow_other w g a.block cs h]
theorem YJ {w:World} {lim:Lm} {g:Nat} {cur cs:Array Value} {t:TypeId} (hg:w.heap[g]? = Xa (.cells cur t (0,0))) (hl:lim g=0) :
  ZU w lim (w.setRow g cs) lim (fun b=>b=g) where
 os:=rfl
 tape:=rfl
 output:=rfl
 size:=by simp
 frz a _:=Yj w g cur cs t hg a
 blk b _ hb:=⟨setRow_other w g b cs hb,rfl⟩
 ext:=⟨fun b _=>⟨XD _,fun o u ho hu=>by
  by_cases h:b=g
  ·subst h;rw [hl] at ho;omega
  ·unfold World.cell? at hu ⊢
   rw [setRow_other w g b cs h]
   exact hu⟩,fun _ _ h=>h⟩
def W6 (r:Nat→Option Nat) (off n:Nat) (new:Nat→Option Nat):Nat→Option Nat:=fun k=>if k=0 then r 0 else if off < k∧k≤off+n then new (k-1-off) else r k
theorem Sim.setCells {c:Ctx} {σ:Nat→AV} {tm:Array Value} {w:World} {lim:Lm} {X:Nat→Nat→Option Nat} (h:Sim c σ tm w lim X) {d off b:Nat} {cs vc:List AV} {us:List Value} {arr:Array Value} {t:TypeId}
  (new:Nat→Option Nat) (hd:σ d = .box cs) (hX:X d 0=Xa b) (hfit:off+vc.length≤cs.length) (hl:vc.length=us.length) (hvc:∀ x∈vc,ZbP x)
  (hr:∀ (i:Nat) (x:AV) (u:Value),vc[i]? = Xa x→us[i]? = Xa u→J8 c.P w lim (new i) x u) (hheap:w.heap[b]? = Xa (.cells arr t (0,0)))
  (hnp:∀ k,off≤k→k < off+vc.length→∀ i,i≠d→¬ Jh (σ i) d (k+1))
  (hn:∀ i b',new i=Xa b'→i < vc.length∧(c.A b'∨c.w0.heap.size≤b')∧b' < w.heap.size∧(∀ j k,X j k≠Xa b')∧∀ i',new i'=Xa b'→i=i')
  (hnw:∀ i e xs b',vc[i]? = Xa (.own Xb e xs)→Ze c.P e=Xb→new i=Xa b'→VZ c.P w lim e xs b' (X (ngN+b')):=by intro i e xs b' _ _ h;cases h) :
  Sim c (upd σ d (.box (cs.take off++vc++cs.drop (off+vc.length)))) tm (w.setRow b (arr.toList.take off++us++arr.toList.drop (off+us.length)).toArray) lim (Ke X d (W6 (X d) off vc.length new)):=by
 have hrel:=h.rel d
 rw [hd] at hrel
 obtain ⟨b0,arr0,t0,g1,g2,g3,g4,g5,g6,g7⟩:=(show ZG c.P w lim (X d) cs _ from hrel)
 have hb0:b0=b:=by rw [g1] at hX;exact Xr hX
 subst hb0
 rw [g3] at hheap
 simp only [Xf,Obj.cells.injEq,and_true] at hheap
 obtain ⟨rfl,rfl⟩:=hheap
 have hstep:=YJ (cs:=(arr0.toList.take off++us++arr0.toList.drop (off+us.length)).toArray) g3 g5
 have hdn:d < c.nt:=by
  rcases Xx d c.nt with hlt | hge
  ·exact hlt
  ·have:=h.out d hge;rw [hd] at this;rcases this with h0 | h0<;>cases h0
 have hal:arr0.toList.length=cs.length:=by simpa using g4
 refine h.putRow (S:=fun b=>b=b0) _ hstep (fun b' hb'=>⟨0,by rw [hb'];exact g1⟩) hdn rfl (fun i _=>rfl) (.inr ⟨⟨_,rfl⟩,rfl,rfl⟩) (fun i q hi hr=>?_) ?_ (fun k b' hk=>?_) (fun k k' b' hk hk'=>?_) (hns:=fun k e xs b' m1 m2 m3=>?_)
 ·obtain ⟨p,hp⟩:=Y4 h hr
  rw [hd] at hp
  cases q with
  | zero => simp [Zp] at hp
  | succ q =>
   have hq:q < off∨off+vc.length≤q:=by
    rcases Xx q off with h1 | h1
    ·exact .inl h1
    ·rcases Xx q (off+vc.length) with h2 | h2
     ·exact (hnp q h1 h2 i hi hr).elim
     ·exact .inr h2
   have hlt:q < cs.length:=by
    rcases Xx q cs.length with h1 | h1
    ·exact h1
    ·simp [Zp,Uc h1] at hp
   have hsame:(cs.take off++vc++cs.drop (off+vc.length))[q]? = cs[q]?:=by
    rcases hq with h1 | h1
    ·rw [Xu,Xv (by simp;omega),Xw,if_pos h1]
    ·rw [Xy (by simp;omega),XH]
     congr 1
     simp<;>omega
   refine ⟨fun e xs hex=>⟨xs,?_,rfl⟩,?_,fun b' hb'=>.of (setRow_other w b0 b' _ fun e=>?_)⟩
   ·rw [hd] at hex
    simp only [Zp,hsame] at hex ⊢
    exact hex
   ·unfold W6
    rw [if_neg (by omega),if_neg (by omega)]
   ·have:=(h.dist d (q+1) d 0 b' hb' (by rw [e];exact g1)).2
    omega
 ·refine ⟨b0,(arr0.toList.take off++us++arr0.toList.drop (off+us.length)).toArray,t0,?_,g2,setRow_heap w b0 arr0 _ t0 _ g3,?_,g5,fun x hx=>?_,fun i x u hx hu=>?_⟩
  ·rw [Zl];exact g1
  ·simp only [Uu,XA,XQ,Ue]
   omega
  ·rcases Xt.1 hx with hx | hx
   ·rcases Xt.1 hx with hx | hx
    ·exact g6 x (XO hx)
    ·exact hvc x hx
   ·exact g6 x (XW hx)
  ·rw [Zl]
   have hu':(arr0.toList.take off++us++arr0.toList.drop (off+us.length))[i]? = Xa u:=by simpa using hu
   have old:∀ j,i=j→cs[j]? = Xa x→arr0[j]? = Xa u→(j < off∨off+vc.length≤j)→J8 c.P (w.setRow b0 (arr0.toList.take off++us++arr0.toList.drop (off+us.length)).toArray) lim (W6 (X d) off vc.length new (i+1)) x u:=by
    intro j hij hxj huj hout
    subst hij
    have hrow:W6 (X d) off vc.length new (i+1)=X d (i+1):=by
     unfold W6
     rw [if_neg (by omega),if_neg (by omega)]
    rw [hrow]
    refine (g7 i x u hxj huj).mono hstep.ext fun b' hb'=>hstep.blk b' (h.ours d (i+1) b' hb').1 fun e=>?_
    have:=h.dist d (i+1) d 0 b' hb' (by rw [e];exact g1)
    omega
   by_cases h1:i < off
   ·rw [Xu,Xv (by simp;omega),Xw,if_pos h1] at hx
    rw [Xu,Xv (by simp;omega),Xw,if_pos h1] at hu'
    exact old i rfl hx (by simpa using hu') (.inl h1)
   ·by_cases h2:i < off+vc.length
    ·rw [Xu,Xy (by simp;omega),Xv (by simp;omega)] at hx
     rw [Xu,Xy (by simp;omega),Xv (by simp;omega)] at hu'
     have e1:i-(cs.take off).length=i-off:=by simp<;>omega
     have e2:i-(arr0.toList.take off).length=i-off:=by simp<;>omega
     rw [e1] at hx
     rw [e2] at hu'
     have hrow:W6 (X d) off vc.length new (i+1)=new (i-off):=by
      unfold W6
      rw [if_neg (by omega),if_pos (by omega)]
      congr 1<;>omega
     rw [hrow]
     refine (hr (i-off) x u hx hu').mono hstep.ext fun b' hb'=>hstep.blk b' (hn _ b' hb').2.2.1 fun e=>(hn _ b' hb').2.2.2.1 d 0 (by rw [e];exact g1)
    ·have hlt:i < cs.length:=by
      have:=(Xi.1 hx).1
      simp at this
      omega
     have e1:(cs.take off++vc++cs.drop (off+vc.length))[i]? = cs[i]?:=by
      rw [Xy (by simp;omega),XH]
      congr 1
      simp<;>omega
     have e2:(arr0.toList.take off++us++arr0.toList.drop (off+us.length))[i]? = arr0.toList[i]?:=by
      rw [Xy (by simp;omega),XH]
      congr 1
      simp<;>omega
     rw [e1] at hx
     rw [e2] at hu'
     exact old i rfl hx (by simpa using hu') (.inr (by omega))
 ·unfold W6 at hk
  split at hk
  ·exact ⟨by simp;exact (h.ours d 0 b' hk).1,(h.ours d 0 b' hk).2,fun i j hi e=>hi (h.dist i j d 0 b' e hk).1⟩
  ·split at hk
   ·have:=hn _ b' hk
    exact ⟨by simp;exact this.2.2.1,this.2.1,fun i j _=>this.2.2.2.1 i j⟩
   ·exact ⟨by simp;exact (h.ours d k b' hk).1,(h.ours d k b' hk).2,fun i j hi e=>hi (h.dist i j d k b' e hk).1⟩
 ·unfold W6 at hk hk'
  split at hk<;>split at hk'
  ·omega
  ·split at hk'
   ·exact ((hn _ b' hk').2.2.2.1 d 0 hk).elim
   ·have:=h.dist d 0 d k' b' hk hk';omega
  ·split at hk
   ·exact ((hn _ b' hk).2.2.2.1 d 0 hk').elim
   ·have:=h.dist d k d 0 b' hk hk';omega
  ·split at hk<;>split at hk'
   ·have:=(hn _ b' hk).2.2.2.2 _ hk'
    omega
   ·exact ((hn _ b' hk).2.2.2.1 d k' hk').elim
   ·exact ((hn _ b' hk').2.2.2.1 d k hk).elim
   ·have:=h.dist d k d k' b' hk hk';omega
 ·have hng:=h.ntN
  have hY:∀ j b2,X (ngN+b') j=Xa b2→Zeh w lim (w.setRow b0 (arr0.toList.take off++us++arr0.toList.drop (off+us.length)).toArray) lim b2:=fun j b2 hb2=>hstep.blk b2 (h.ours _ j b2 hb2).1 fun e=>by
   have:=(h.dist (ngN+b') j d 0 b2 hb2 (by rw [e];exact g1)).1
   omega
  have fin:VZ c.P w lim e xs b' (X (ngN+b'))→b'≠b0→VZ c.P (w.setRow b0 (arr0.toList.take off++us++arr0.toList.drop (off+us.length)).toArray) lim e xs b' (X (ngN+b')):=fun hh hne=>hh.mono hstep.ext (setRow_other w b0 b' _ hne) hY
  cases k with
  | zero => simp [ZY] at m1
  | succ k =>
   obtain ⟨xc,hxc,hxe⟩:∃ xc,(cs.take off++vc++cs.drop (off+vc.length))[k]? = Xa xc∧xc = .own Xb e xs:=by
    simp only [ZY] at m1
    split at m1
    ·rename_i e1 xs1 hq
     simp only [Xf,Xn] at m1
     obtain ⟨rfl,rfl⟩:=m1
     exact ⟨_,hq,rfl⟩
    ·cases m1
   subst hxe
   unfold W6 at m3
   rw [if_neg (by omega)] at m3
   by_cases h1:off < k+1∧k+1≤off+vc.length
   ·rw [if_pos h1,show k+1-1-off=k-off by omega] at m3
    rw [Xu,Xy (by simp;omega),Xv (by simp;omega),show k-(cs.take off).length=k-off by simp<;>omega] at hxc
    exact fin (hnw (k-off) e xs b' hxc m2 m3) fun e=>(hn _ b' m3).2.2.2.1 d 0 (by rw [e];exact g1)
   ·rw [if_neg h1] at m3
    have hsame:cs[k]? = Xa (.own Xb e xs):=by
     rcases Xx k off with h2 | h2
     ·rw [Xu,Xv (by simp;omega),Xw,if_pos h2] at hxc
      exact hxc
     ·rw [Xy (by simp;omega),XH] at hxc
      rw [← hxc]
      congr 1
      simp<;>omega
    refine fin (h.nst d (k+1) e xs b' (by rw [hd];simp only [ZY,hsame]) m2 m3) fun e=>?_
    have:=h.dist d (k+1) d 0 b' m3 (by rw [e];exact g1)
    omega
theorem JY {P:Program} {T:TypeId} {w:World} {b off:Nat} {arr:Array Value} {t:TypeId} {v:Value} {us:List Value} {i:TypeInfo} (hi:P.info? T=Xa i) (hv:v.cells=us.toArray) (hn:us.length=P.cellsOf T)
  (hg:w.heap[b]? = Xa (.cells arr t (0,0))) (hfit:off+us.length≤arr.size) (h1:∀ u∈us,u.oneCell'=Xb) :
  (Instr.storeAt T (.pointer (Xa ⟨b,off,Xe⟩)) v).run P w = .ok () (w.setRow b (arr.toList.take off++us++arr.toList.drop (off+us.length)).toArray):=by
 have hs:=run_storeCells_at P b off t us 0 arr w hg (by simpa using hfit) h1
 simp only [Wq] at hs
 simp [Instr.storeAt,Instr.sureAddr,storeVar,Zu hi,hv,hn,hs]
theorem ZdC {c:Ctx} {σ:Nat→AV} {tm:Array Value} {w:World} {lim:Lm} {X:Nat→Nat→Option Nat} (h:Sim c σ tm w lim X) {d off n k i:Nat} {cs:List AV} (hd:σ d = .box cs)
  (hn:Zca ((cs.drop off).take n)) (h1:off≤k) (h2:k < off+n) (hr:Jh (σ i) d (k+1)):False:=by
 obtain ⟨p,hp⟩:=Y4 h hr
 rw [hd] at hp
 simp only [Zp] at hp
 split at hp
 ·rename_i e xs hx
  refine hn (.own Xb e xs) (Xh (i:=k-off) ?_) e xs rfl
  rw [Xw,if_pos (by omega),XH,show off+(k-off)=k by omega]
  exact hx
 ·cases hp
theorem ZT {c:Ctx} {σ1:Nat→AV} {tm:Array Value} {w:World} {lim:Lm} {X:Nat→Nat→Option Nat} (h:Sim c σ1 tm w lim X) {dst:Option Tmp} {x:Bool} {e:TypeId} {xs:List (List AV)} {v:Value} {ob:Option Nat}
  (hx:ZV c.P w lim x e xs v ob) (ho:∀ b,ob=Xa b→(c.A b∨c.w0.heap.size≤b)∧∀ i j,X i j≠Xa b) (hmo:x=Xb→ZgE c.P w lim e xs (Vj ob))
  (hns:x=Xb→Ze c.P e=Xb→∀ b,ob=Xa b→VZ c.P w lim e xs b (X (ngN+b))):Zi4 c dst σ1 (.own x e xs) tm v w:=by
 cases dst with
 | none => exact ⟨lim, X, h⟩
 | some d => exact fun hd hm => ⟨lim, _, h.putOwn hd (ZA hm) hx (fun b hb => ⟨(ho b hb).1, fun i j _ => (ho b hb).2 i j⟩) hmo hns⟩
def KX (P:Program) (x:Bool) (e:TypeId) (xs:List (List AV)):AV:=match x with | true=>.dead | false=>.slice Xc (P.cellsOf e) xs
theorem Sim.free {c:Ctx} {σ:Nat→AV} {tm:Array Value} {w:World} {lim:Lm} {X:Nat→Nat→Option Nat} (h:Sim c σ tm w lim X) {t:Nat} {x:Bool} {e:TypeId} {xs:List (List AV)} (ht:σ t = .own x e xs) (hno:ZmO σ t) :
  Sim c (upd σ t (KX c.P x e xs)) tm w lim (Ke X t Jz)∧ZV c.P w lim x e xs (tm.getD t undef) (X t 0)∧
   ∀ b,X t 0=Xa b→(c.A b∨c.w0.heap.size≤b)∧∀ i j,Ke X t Jz i j≠Xa b:=by
 have hr:=h.rel t
 rw [ht] at hr
 have hr':ZV c.P w lim x e xs (tm.getD t undef) (X t 0):=hr
 have htn:t < c.nt:=by
  rcases Xx t c.nt with hlt | hge
  ·exact hlt
  ·have:=h.out t hge;rw [ht] at this;rcases this with h0 | h0<;>cases h0
 refine ⟨h.weaken (k:=0) htn (fun cs hcs=>by rw [ht] at hcs;cases hcs) hno (by cases x<;>rfl) (fun i q hq=>by cases x<;>rcases hq with hq | ⟨_,hq⟩ <;> cases hq) ?_,hr',fun b hb=>⟨(h.ours t 0 b hb).2,fun i j hij=>?_⟩⟩
 ·cases x with
  | true => trivial
  | false => exact ZV.rep hr' Xc rfl
 ·by_cases hi:i=t
  ·subst hi;rw [Zl] at hij;cases hij
  ·rw [Zc X Jz hi] at hij
   exact hi (h.dist i j t 0 b hij hb).1
def Kw (σ:Nat→AV) (t:Nat) (us:List (Nat×AV)):Prop:=(∀ u∈us,u.1≠t∧u.2 = .dead∧∃ k,Jh (σ u.1) t k)∧∀ i k,i≠t→Jh (σ i) t k→i∈us.map (·.1)
def Yc (T:Odr) (σ:Nat→AV) (t:Nat) (us:List (Nat×AV)):Prop:=(T = .text∧Kw σ t us)∨∃ N M K,T = .any N M K∧N t=Xb∧us = []
theorem Yc.all {T:Odr} {σ σ':Nat→AV} {t:Nat} {us:List (Nat×AV)} (h:Yc T σ t us) (hT:T.rel σ σ'):Kw σ' t us:=by
 rcases h with ⟨rfl,h⟩ | ⟨N,M,K,rfl,h1,rfl⟩
 ·have:σ'=σ:=hT
  rw [this]
  exact h
 ·exact ⟨by simp,fun i k _ hr=>(hT.1 t i k (by simp [Odr.nr,h1]) hr).elim⟩
theorem Ze0 {T':Odr} {P:Program} {o:Oper} {σ:Nat→AV} {T:TypeId} {a x:Operand} {d off:Nat} {cs vc0 vc:List AV} {y:AV} (ho:o.op = .store T a x) (ha:Zn P σ a = .ptr d off) (hd:σ d = .box cs)
  (hx:Zn P σ x=y) (hy:y.cells? = Xa vc0) (hn0:vc0.length=P.cellsOf T) (h0:P.cellsOf T≠0) (hfit:off+P.cellsOf T≤cs.length) (hnr:Zca ((cs.drop off).take (P.cellsOf T))∨Yc T' σ d [])
  (hno:vc.length=vc0.length∧∀ (w:World) (lim:Lm) (us:List Value),JJ w lim vc0 us→(∀ z∈vc,ZbP z)∧∀ (j:Nat) (z:AV) (u:Value),vc[j]? = Xa z→us[j]? = Xa u→J8 P w lim Xe z u) :
  Yz T' P o σ .dead [(d,.box (cs.take off++vc++cs.drop (off+P.cellsOf T)))] [d]:=by
 intro c hc σ' tm w lim X hid hag hT hsim next Q hnx
 have hga:Zn P σ' a=Zn P σ a:=Zw fun t ht=>hid t (by simp [Zo (o:=o) (x:=a) (by rw [ho];simp [Op.operands]) ht])
 have hgx:Zn P σ' x=Zn P σ x:=Zw fun t ht=>hid t (by simp [Zo (o:=o) (x:=x) (by rw [ho];simp [Op.operands]) ht])
 have hd':σ' d = .box cs:=by rw [hag d (by simp),hd]
 have hva:=JF hc hsim ha hga
 rw [← hc] at hva
 obtain ⟨b,h1,h2,h3⟩:=K6 hsim hd' hva
 obtain ⟨us,h4,h5⟩:=KM hy (JF hc hsim hx hgx)
 have h6:=hno.2 w lim us h5
 have hn:vc.length=P.cellsOf T:=hno.1.trans hn0
 obtain ⟨b0,arr,t,g1,g2,g3,g4,g5,g6,g7⟩:=h3
 have hb0:b0=b:=by rw [g1] at h1;exact Xr h1
 subst hb0
 obtain ⟨i,hi⟩:=Zr h0
 have hset:=hsim.setCells (off:=off) (vc:=vc) (us:=us) (fun _=>Xe) hd' g1 (by rw [hn];exact hfit) (hno.1.trans h5.1) h6.1 (fun j z u hz hu=>by rw [hc];exact h6.2 j z u hz hu) g3 (fun k h1 h2 i hi hr=>by
   rcases hnr with hnr | hdr
   ·exact ZdC hsim hd' (by rw [← hn] at hnr;exact hnr) h1 h2 hr
   ·have:=(hdr.all hT).2 i (k+1) hi hr
    simp at this) (fun _ _ he=>by cases he)
 refine JA (w':=w.setRow b0 (arr.toList.take off++us++arr.toList.drop (off+us.length)).toArray) ?_ (hnx undef _ ?_)
 ·have hst:=JY (P:=P) (T:=T) (w:=w) (b:=b0) (off:=off) (v:=Act.eval ⟨tm,[]⟩ x) hi h4 (by rw [← h5.1,hn0]) g3 (by rw [← h5.1,hn0,g4];exact hfit) (fun u hu=>by
   obtain ⟨j,hj⟩:=XK.1 hu
   have hlt:j < vc0.length:=by rw [h5.1];exact (Xi.1 hj).1
   exact (h5.2.2 j _ u (Xp hlt) hj).oneCell (h5.2.1 _ (Wl hlt)))
  simp only [execOp,ho,h2,Sem.run_bind,hst,Result.andThen_ok,Sem.run_pure]
 ·rw [hn] at hset
  exact Zq hset rfl (k:=0) trivial
theorem VM (σ:Nat→AV):∀ (us vs:List (Nat×AV)),Jm σ (us++vs)=Jm (Jm σ us) vs
 | [], _ => rfl
 | (d, x) :: us, vs => by
  simp only [XP,Jm]
  exact VM _ us vs
theorem Kr:∀ (us:List (Nat×AV)) (σ:Nat→AV) (i:Nat),(∀ u∈us,u.2 = .dead)→Jm σ us i=if i∈us.map (·.1) then .dead else σ i
 | [], σ, i, _ => by simp [Jm]
 | (d, x) :: us, σ, i, h => by
  have hx:x = .dead:=h (d,x) (by simp)
  subst hx
  rw [Jm,Kr us _ i fun u hu=>h u (by simp [hu])]
  by_cases hm:i∈us.map (·.1)
  ·rw [if_pos hm,if_pos (by simp only [Xg,Xl];exact .inr hm)]
  ·rw [if_neg hm]
   by_cases hi:i=d
   ·subst hi
    rw [Zs,if_pos (by simp)]
   ·rw [Zb _ _ hi,if_neg (by simp only [Xg,Xl];exact fun h=>h.elim hi hm)]
theorem YE {x:AV} {d k:Nat} (h:Jh x d k):(∀ cs,x≠.box cs)∧Kz x∧x.isG=Xc:=by
 rcases h with rfl | ⟨o,rfl⟩ <;> exact ⟨fun _ h=>(by cases h),⟨fun _ h=>(by cases h),fun _ _ h=>(by cases h),fun _ h=>(by cases h)⟩,rfl⟩
theorem Sim.drops {c:Ctx} {tm:Array Value} {w:World} {lim:Lm} : ∀ (us:List (Nat×AV)) {σ:Nat→AV} {X:Nat→Nat→Option Nat},Sim c σ tm w lim X→(∀ u∈us,u.2 = .dead∧Kz (σ u.1)∧u.1 < c.nt)→
  ∃ X',Sim c (Jm σ us) tm w lim X'∧∀ i,i∉us.map (·.1)→X' i=X i
 | [], _, X, h, _ => ⟨X, h, fun _ _ => rfl⟩
 | (d, x) :: us, σ, X, h, hu => by
  obtain ⟨h1,h2,h3⟩:=hu (d,x) (by simp)
  have h1:x = .dead:=h1
  subst h1
  have hw:=h.weaken (k:=0) h3 h2.1 (h.noRefs h2.none) (x:=.dead) rfl (fun i q hq=>by rcases hq with hq | ⟨_,hq⟩ <;> cases hq) trivial
  obtain ⟨X',g1,g2⟩:=Sim.drops us hw fun u hm=>by
   obtain ⟨k1,k2,k3⟩:=hu u (by simp [hm])
   refine ⟨k1,?_,k3⟩
   by_cases he:u.1=d
   ·rw [he,Zs]
    exact ⟨fun _ h=>(by cases h),fun _ _ h=>(by cases h),fun _ h=>(by cases h)⟩
   ·rw [Zb _ _ he]
    exact k2
  refine ⟨X',g1,fun i hi=>?_⟩
  simp only [Xg,Xl,not_or] at hi
  rw [g2 i hi.2,Zc X Jz hi.1]
theorem JL {c:Ctx} {σ:Nat→AV} {tm:Array Value} {w:World} {lim:Lm} {X:Nat→Nat→Option Nat} (h:Sim c σ tm w lim X) {t:Nat} (h1:σ t≠.dead) (h2:(σ t).isG=Xc):t < c.nt:=by
 rcases Xx t c.nt with hlt | hge
 ·exact hlt
 ·rcases h.out t hge with h0 | h0
  ·exact (h1 h0).elim
  ·rw [h2] at h0;cases h0
theorem Sim.freeAll {c:Ctx} {σ:Nat→AV} {tm:Array Value} {w:World} {lim:Lm} {X:Nat→Nat→Option Nat} (h:Sim c σ tm w lim X) {t:Nat} {x:Bool} {e:TypeId} {xs:List (List AV)} {us:List (Nat×AV)} (ht:σ t = .own x e xs)
  (hus:(x=Xc∧us = [])∨Kw σ t us) :
  ∃ X',Sim c (Jm σ ((t,KX c.P x e xs)::us)) tm w lim X'∧ZV c.P w lim x e xs (tm.getD t undef) (X t 0)∧(∀ b,X t 0=Xa b→(c.A b∨c.w0.heap.size≤b)∧∀ i j,X' i j≠Xa b)∧∀ i,c.nt≤i→X' i=X i:=by
 have htn0:t < c.nt:=JL h (by rw [ht];exact fun h=>by cases h) (by rw [ht];rfl)
 rcases hus with ⟨rfl,rfl⟩ | ⟨hd1,hd2⟩
 ·obtain ⟨h1,h2,h3⟩:=h.free ht (h.noRefs fun k=>by rw [ht];rfl)
  exact ⟨_,h1,h2,h3,fun i hi=>Zc X Jz (by omega)⟩
 ·obtain ⟨X1,g1,g2⟩:=h.drops us fun u hu=>by
   obtain ⟨k1,k2,k,k3⟩:=hd1 u hu
   obtain ⟨m1,m2,m3⟩:=YE k3
   exact ⟨k2,m2,JL h (fun e=>by rw [e] at k3;rcases k3 with k3 | ⟨_,k3⟩ <;> cases k3) m3⟩
  have htn:t∉us.map (·.1):=by
   intro hm
   obtain ⟨u,hu,rfl⟩:=Xj.1 hm
   exact (hd1 u hu).1 rfl
  have hdead:∀ (σ:Nat→AV) (i:Nat),Jm σ us i=if i∈us.map (·.1) then .dead else σ i:=fun σ i=>Kr us σ i fun u hu=>(hd1 u hu).2.1
  have ht1:Jm σ us t = .own x e xs:=by rw [hdead,if_neg htn,ht]
  obtain ⟨f1,f2,f3⟩:=g1.free ht1 (fun i k hi hr=>by
   rw [hdead] at hr
   split at hr
   ·rcases hr with hr | ⟨_,hr⟩ <;> cases hr
   ·rename_i hm
    exact hm (hd2 i k hi hr))
  rw [g2 t htn] at f2 f3
  have husn:∀ i,c.nt≤i→i∉us.map (·.1):=by
   intro i hi hm
   obtain ⟨u,hu,rfl⟩:=Xj.1 hm
   obtain ⟨k1,k2,k,k3⟩:=hd1 u hu
   have:=JL h (t:=u.1) (fun e=>by rw [e] at k3;rcases k3 with k3 | ⟨_,k3⟩ <;> cases k3) (YE k3).2.2
   omega
  refine ⟨_,?_,f2,f3,fun i hi=>(Zc _ _ (by omega)).trans (g2 i (husn i hi))⟩
  have he:Jm σ ((t,KX c.P x e xs)::us)=upd (Jm σ us) t (KX c.P x e xs):=by
   funext i
   simp only [Jm]
   rw [hdead]
   by_cases hi:i=t
   ·subst hi
    rw [if_neg htn,Zs,Zs]
   ·rw [Zb _ _ hi,Zb _ _ hi,hdead]
  rw [he]
  exact f1
theorem Zhd {T:Odr} {P:Program} {o:Oper} {σ:Nat→AV} {t:Nat} {x:Bool} {e:TypeId} {xs:List (List AV)} {us:List (Nat×AV)} (ho:o.op = .move (.tmp t)∨o.op = .assign (.tmp t)) (ht:σ t = .own x e xs)
  (hus:(x=Xc∧us = [])∨Yc T σ t us) (hmv:x=Xb→Mv P e xs):Yz T P o σ (.own x e xs) ((t,KX P x e xs)::us) []:=by
 intro c hc σ' tm w lim X hid hag hT hsim next Q hn
 have ht':σ' t = .own x e xs:=by rw [hag t (by simp),ht]
 obtain ⟨X',h1,h2,h3,h4⟩:=hsim.freeAll (us:=us) ht' (hus.imp id fun h=>h.all hT)
 rw [hc] at h1
 refine Zi (v:=tm.getD t undef) (w':=w) ?_ (hn _ w (ZT h1 h2 h3 (fun hx=>.mv (by rw [hc];exact hmv hx)) fun hx hd b hb=>?_))
 rotate_left
 ·subst hx
  rw [h4 _ (XV hsim.ntN (XR _ _))]
  exact hsim.nst t 0 e xs b (by rw [ht'];rfl) hd hb
 rcases ho with ho | ho<;>simp [execOp,ho,Act.eval]
theorem ZpF {P:Program} {o:Oper} {σ:Nat→AV} {x:Bool} {e:TypeId} (ho:o.op = .assign (.const (.slice Xe 0 0))):Jg P o σ (.own x e []) [] []:=by
 intro c hc σ' tm w lim X hid hag hsim next Q hn
 refine Zi (v:=.slice Xe 0 0) (w':=w) (by simp [execOp,ho,Act.eval]) (hn _ w (ZT (ob:=Xe) hsim (.inl ⟨[],World.ownsRow_nil _ 0 e _,rfl,by simp,by simp,by simp,by simp⟩) (by simp) (fun _=>.none rfl) fun _ _ b hb=>by cases hb))
theorem ZkK {P:Program} {o:Oper} {σ:Nat→AV} {t:Nat} {vs:List AV} (ho:o.op = .move (.tmp t)) (ht:σ t = .tuple vs):Jg P o σ (.tuple vs) [(t,.gone)] []:=by
 intro c hc σ' tm w lim X hid hag hsim next Q hn
 have ht':σ' t = .tuple vs:=by rw [hag t (by simp),ht]
 have htn:t < c.nt:=by
  rcases Xx t c.nt with hlt | hge
  ·exact hlt
  ·have:=hsim.out t hge;rw [ht'] at this;rcases this with h0 | h0<;>cases h0
 have h1:Sim c (upd σ' t .gone) tm w lim (Ke X t Jz):=hsim.weaken (k:=0) htn (fun cs hcs=>by rw [ht'] at hcs;cases hcs) (hsim.noRefs fun k=>by rw [ht'];rfl) rfl (fun i q hq=>by rcases hq with hq | ⟨_,hq⟩ <;> cases hq) trivial
 have hr:=hsim.rel t
 rw [ht'] at hr
 obtain ⟨us,g1,g2,g3⟩:=hr
 refine Zi (v:=tm.getD t undef) (w':=w) (by simp [execOp,ho,Act.eval]) (hn _ w ?_)
 cases hdst:o.dst with
 | none => exact ⟨lim, _, h1⟩
 | some d =>
  intro hd hm
  refine ⟨lim,_,h1.putRow (hns:=fun k e xs b m1 m2 m3=>by
   have:=hsim.ntN
   rw [Zc X Jz (show ngN+b≠t by omega)]
   exact hsim.nst t k e xs b (by rw [ht'];exact m1) m2 m3) (X t) (ZU.refl w lim (fun _=>False)) (fun _ hs=>hs.elim) hd (tm':=tm.setIfInBounds d (tm.getD t undef)) (by simp) (fun i hi=>ZD tm d i _ hi) (.inl (ZA hm).1) (fun i q hi hr=>(h1.noRefs (ZA hm).none i q hi hr).elim) ?_ (fun k b hk=>⟨(hsim.ours t k b hk).1,(hsim.ours t k b hk).2,fun i j _ hij=>?_⟩) (fun k k' b hk hk'=>(hsim.dist t k t k' b hk hk').2)⟩
  ·rw [Jp tm d _ (by rw [hsim.size];exact hd)]
   refine ⟨us,g1,g2,?_⟩
   rw [Zl]
   exact g3
  ·by_cases hi:i=t
   ·subst hi;rw [Zl] at hij;cases hij
   ·rw [Zc X Jz hi] at hij
    exact hi (hsim.dist i j t k b hij hk).1
theorem Zb7 {P:Program} {o:Oper} {σ:Nat→AV} {t i:Nat} {vs:List AV} {x:AV} (ho:o.op = .extract (.tmp t) i) (ht:σ t = .tuple vs) (hx:vs[i]? = Xa x) (hp:x.plain=Xb) (hnp:∀ d p,x≠.ptr d p) (hne:∀ cs,x≠.eptr cs) (hnd:x≠.dead) (hng:x≠.gone):Jg P o σ x [] []:=by
 intro c hc σ' tm w lim X hid hag hsim next Q hn
 have ht':σ' t = .tuple vs:=by rw [(hid t (Zo (o:=o) (x:=.tmp t) (t:=t) (by rw [ho];simp [Op.operands]) rfl)).eq fun cs e=>(by rw [ht] at e;cases e),ht]
 have hr:=hsim.rel t
 rw [ht'] at hr
 obtain ⟨us,g1,g2,g3⟩:=hr
 have hlt:i < us.length:=by rw [g2];exact (Xi.1 hx).1
 have hu:=Xp hlt
 have hc3:=g3 i x _ hx hu
 refine Zi (v:=us[i]) (w':=w) ?_ (hn _ w (Zq hsim hp (k:=0) ?_))
 ·have hev:Act.eval ⟨tm,[]⟩ (.tmp t) = .tuple us.toArray:=g1
  simp [execOp,ho,hev,Instr.extract,hlt]
 ·cases x<;>first | (simp [AV.plain] at hp;done) | (exact (hnp _ _ rfl).elim) | (exact (hne _ rfl).elim) | (exact (hnd rfl).elim) | (exact (hng rfl).elim) | (have hz:Rep w lim _ _:=hc3;cases hz;done) | exact hc3
def Zs1 (P:Program) (x:Bool) (e:TypeId) (xs:List (List AV)):AV:=match x with | true=>.gone | false=>.slice Xc (P.cellsOf e) xs
theorem Zcc {P:Program} {o:Oper} {σ:Nat→AV} {t i:Nat} {vs:List AV} {x:Bool} {e:TypeId} {xs:List (List AV)} (ho:o.op = .extract (.tmp t) i) (ht:σ t = .tuple vs) (hx0:vs[i]? = Xa (.own x e xs)) (hmv:x=Xb→Mv P e xs) :
  Jg P o σ (.own x e xs) [(t,.tuple (vs.set i (Zs1 P x e xs)))] []:=by
 have hx:=hx0
 intro c hc σ' tm w lim X hid hag hsim next Q hn
 have ht':σ' t = .tuple vs:=by rw [hag t (by simp),ht]
 have htn:t < c.nt:=by
  rcases Xx t c.nt with hlt | hge
  ·exact hlt
  ·have:=hsim.out t hge;rw [ht'] at this;rcases this with h0 | h0<;>cases h0
 have hr:=hsim.rel t
 rw [ht'] at hr
 obtain ⟨us,g1,g2,g3⟩:=hr
 have hlt:i < us.length:=by rw [g2];exact (Xi.1 hx).1
 have hu:=Xp hlt
 have hown:ZV c.P w lim x e xs us[i] (X t (i+1)):=g3 i _ _ hx hu
 have h1:Sim c (upd σ' t (.tuple (vs.set i (Zs1 P x e xs)))) tm w lim (Ke X t fun k=>if k=i+1 then Xe else X t k):=by
  refine hsim.putRow (S:=fun _=>False) _ (ZU.refl w lim _) (fun _ hs=>hs.elim) htn rfl (fun j _=>rfl) (.inl fun cs hcs=>by rw [ht'] at hcs;cases hcs) (fun i q hi hr=>(hsim.noRefs (fun k=>by rw [ht'];rfl) i q hi hr).elim) ?_ (fun k b hk=>?_) (fun k k' b hk hk'=>?_) (hns:=fun k e1 xs1 b m1 m2 m3=>?_)
  ·refine ⟨us,g1,by simp [g2],fun j y u hy hju=>?_⟩
   rw [Zl]
   by_cases hji:j=i
   ·subst hji
    rw [X8 (by omega)] at hy
    simp only [Xf] at hy
    subst hy
    rw [hu] at hju
    simp only [Xf] at hju
    subst hju
    cases x with
    | true => trivial
    | false =>
     have:=ZV.rep hown Xc rfl
     rw [hc] at this
     exact this
   ·rw [Wg (fun h=>hji h.symm)] at hy
    rw [if_neg (by omega)]
    exact g3 j y u hy hju
  ·split at hk
   ·cases hk
   ·exact ⟨(hsim.ours t k b hk).1,(hsim.ours t k b hk).2,fun a j ha hj=>ha (hsim.dist a j t k b hj hk).1⟩
  ·split at hk<;>split at hk'
   ·omega
   ·cases hk
   ·cases hk'
   ·exact (hsim.dist t k t k' b hk hk').2
  ·split at m3
   ·cases m3
   ·rename_i hki
    refine hsim.nst t k e1 xs1 b ?_ m2 m3
    rw [ht',← m1]
    cases k with
    | zero => rfl
    | succ k => simp only [ZY]; rw [Wg (fun h => hki (by rw [h]))]
 refine Zi (v:=us[i]) (w':=w) ?_ (hn _ w (ZT h1 hown (fun b hb=>⟨(hsim.ours t _ b hb).2,fun a j haj=>?_⟩) (fun hx=>.mv (by rw [hc];exact hmv hx)) fun hx hdp b hb=>?_))
 rotate_left 2
 ·subst hx
  have:=hsim.ntN
  rw [Zc X _ (show ngN+b≠t by omega)]
  exact hsim.nst t (i+1) e xs b (by rw [ht'];simp only [ZY,hx0]) hdp hb
 ·have hev:Act.eval ⟨tm,[]⟩ (.tmp t) = .tuple us.toArray:=g1
  simp [execOp,ho,hev,Instr.extract,hlt]
 ·by_cases ha:a=t
  ·subst ha
   rw [Zl] at haj
   split at haj
   ·cases haj
   ·rename_i hne
    exact hne (hsim.dist a j a (i+1) b haj hb).2
  ·rw [Zc X _ ha] at haj
   exact ha (hsim.dist a j t (i+1) b haj hb).1
theorem ZB {y:AV} {k:Nat} {e:TypeId} {xs:List (List AV)} (h:Zp y k=Xa (e,xs)) :
  (y = .own Xb e xs∧k=0)∨(∃ cs q,y = .box cs∧k=q+1∧cs[q]? = Xa (.own Xb e xs))∨∃ cs q,y = .gbox cs∧k=q+1∧cs[q]? = Xa (.own Xb e xs):=by
 unfold Zp at h
 split at h
 ·simp only [Xf,Xn] at h
  obtain ⟨rfl,rfl⟩:=h
  exact .inl ⟨rfl,rfl⟩
 ·rename_i cs q
  split at h
  ·rename_i e' xs' hc
   simp only [Xf,Xn] at h
   obtain ⟨rfl,rfl⟩:=h
   exact .inr (.inl ⟨cs,q,rfl,rfl,hc⟩)
  ·cases h
 ·rename_i cs q
  split at h
  ·rename_i e' xs' hc
   simp only [Xf,Xn] at h
   obtain ⟨rfl,rfl⟩:=h
   exact .inr (.inr ⟨cs,q,rfl,rfl,hc⟩)
  ·cases h
 ·cases h
theorem Yd {c:Ctx} {σ:Nat→AV} {tm:Array Value} {w:World} {lim:Lm} {X:Nat→Nat→Option Nat} (h:Sim c σ tm w lim X) {d k:Nat} {e:TypeId} {xs:List (List AV)} (hp:Zp (σ d) k=Xa (e,xs)) :
  ∃ v,ZV c.P w lim Xb e xs v (X d k):=by
 have hr:=h.rel d
 rcases ZB hp with ⟨h1,rfl⟩ | ⟨cs,q,h1,rfl,h2⟩ | ⟨cs,q,h1,rfl,h2⟩
 ·rw [h1] at hr
  exact ⟨_,hr⟩
 ·rw [h1] at hr
  obtain ⟨b,arr,t,g1,g2,g3,g4,g5,g6,g7⟩:=(show ZG c.P w lim (X d) cs _ from hr)
  have hlt:=(Xi.1 h2).1
  exact ⟨arr[q]'(by omega),g7 q _ _ h2 (XZ (by omega))⟩
 ·rw [h1] at hr
  obtain ⟨v',b,arr,t,g1,g2,g3,g4,g5,g6,g7⟩:=hr
  have hlt:=(Xi.1 h2).1
  exact ⟨arr[q]'(by omega),g7 q _ _ h2 (XZ (by omega))⟩
theorem Va {P:Program} {w:World} {lim:Lm} {e:TypeId} {xs:List (List AV)} {v:Value} {b:Nat} (h:ZV P w lim Xb e xs v (Xa b)) (hm:Zj P e=Xc∨(Ze P e=Xc∧∃ arr t fz,w.heap[b]? = Xa (.cells arr t fz))) :
  ∃ arr cap,v = .slice (Xa ⟨b,0,Xe⟩) xs.length cap∧w.heap[b]? = Xa (.cells arr e (0,0))∧lim b=0∧xs.length≤cap∧cap≤maxLen∧arr.size=cap*P.cellsOf e∧
   (∀ x∈xs,x.length=P.cellsOf e)∧(∀ x∈xs,∀ z∈x,z.isCell=Xb)∧∀ (j:Nat) (z:AV) (u:Value),xs.flatten[j]? = Xa z→arr[j]? = Xa u→Rep w lim z u:=by
 rcases h with ⟨us,h1,h2,h3,h4,h5,h6⟩ | ⟨_,h,_⟩ | ⟨_,⟨h,_,_,_,_,_,_,hb,_,hh,_⟩ | ⟨h,_⟩ | ⟨h,_,_,_,_,_,_,hb,_,hh,_⟩⟩
 ·rcases h1.2 with ⟨hv,hn⟩ | ⟨g,cap,cur,hv,hbg,hg,hnc,hcm,hcs,htake⟩
  ·rw [hv] at h2;cases h2
  ·have hgb:g=b:=by rw [hv] at h2;exact Xr h2
   subst hgb
   refine ⟨cur,cap,hv,hg,by rw [h3 g rfl];rfl,hnc,hcm,hcs,h4,h5,fun j z u hz hu=>h6 j z u hz ?_⟩
   have hj:=(Xi.1 hz).1
   rw [Zg xs _ h4] at hj
   rw [← htake,Xw,if_pos hj]
   simpa using hu
 ·cases h
 ·rcases hm with hm | ⟨_,_,_,_,hm⟩
  ·rw [hm] at h;cases h
  ·cases hb;rw [hm] at hh;cases hh
 ·rcases hm with hm | ⟨hm,_⟩
  ·rw [ZL hm] at h;cases h
  ·rw [hm] at h;cases h
 ·rcases hm with hm | ⟨_,_,_,_,hm⟩
  ·rw [hm] at h;cases h
  ·cases hb;rw [hm] at hh;cases hh
theorem K1 {P:Program} {w:World} {lim:Lm} {e:TypeId} {xs:List (List AV)} {v:Value} {b:Nat} (h:ZV P w lim Xb e xs v (Xa b)) (hm:Zj P e=Xc∨Ze P e=Xb) (hd:Zes P w e (Xa b)) :
  ∃ arr cap,v = .slice (Xa ⟨b,0,Xe⟩) xs.length cap∧w.heap[b]? = Xa (.cells arr (bT e) (0,0))∧lim b=0∧xs.length≤cap∧cap≤maxLen∧arr.size=cap*P.cellsOf (bT e)∧
   (∀ x∈xs,x.length=P.cellsOf (bT e))∧(∀ x∈xs,∀ z∈x,z.isCell=Xb)∧∀ (j:Nat) (z:AV) (u:Value),xs.flatten[j]? = Xa z→arr[j]? = Xa u→Rep w lim z u:=by
 have h1:=h.one hm hd
 have hb:Zj P (bT e)=Xc:=by
  rcases hm with hm | hm
  ·rw [K3 hm];exact hm
  ·rcases h with ⟨us,k1,k2,_⟩ | ⟨_,h,_⟩ | ⟨_,⟨_,_,_,_,_,et,k1,_⟩ | h | ⟨_,_,_,_,_,_,⟨_,_,k1⟩,_⟩⟩
   ·exfalso
    rcases k1.2 with ⟨hv,_⟩ | ⟨g,cap,cur,hv,_,hg,_⟩
    ·rw [hv] at k2;cases k2
    ·obtain ⟨arr,ha⟩:=hd hm b rfl
     have hgb:g=b:=by rw [hv] at k2;exact Xr k2
     rw [hgb,ha] at hg
     simp only [Xf,Obj.cells.injEq,and_true] at hg
     have h8:2097152≤e:=by simp only [Ze,Xs,decide_eq_true_eq] at hm;exact hm.1
     have h9:=hg.2
     rw [bT,if_pos h8] at h9
     exact absurd h9 (Nat.ne_of_lt (Nat.sub_lt (XI (by decide) h8) (by decide)))
   ·cases h
   ·rw [KP k1] at hm;cases hm
   ·exact h.2.1
   ·rw [YS k1] at hm;cases hm
 exact Va h1.own (.inl hb)
theorem ZdG {P:Program} {w:World} {lim:Lm} {e:TypeId} {xs:List (List AV)} {b cap:Nat} {arr:Array Value} (h1:w.heap[b]? = Xa (.cells arr e (0,0))) (h2:lim b=0) (h3:xs.length≤cap) (h4:cap≤maxLen)
  (h5:arr.size=cap*P.cellsOf e) (h6:∀ x∈xs,x.length=P.cellsOf e) (h7:∀ x∈xs,∀ z∈x,z.isCell=Xb) (h8:∀ (j:Nat) (z:AV) (u:Value),xs.flatten[j]? = Xa z→arr[j]? = Xa u→Rep w lim z u) :
  ZV P w lim Xb e xs (.slice (Xa ⟨b,0,Xe⟩) xs.length cap) (Xa b):=by
 have hle:xs.length*P.cellsOf e≤cap*P.cellsOf e:=XN _ h3
 refine .inl ⟨arr.toList.take (xs.length*P.cellsOf e),⟨?_,.inr ⟨b,cap,arr,rfl,Wh _,h1,h3,h4,h5,rfl⟩⟩,rfl,fun b' hb'=>?_,h6,h7,fun j z u hz hu=>h8 j z u hz ?_⟩
 ·have hal:arr.toList.length=cap*P.cellsOf e:=by simpa using h5
  rw [XQ,hal]
  exact Nat.min_eq_left hle
 ·cases hb'
  rw [if_pos rfl]
  exact h2
 ·rw [Xw] at hu
  split at hu
  ·simpa using hu
  ·cases hu
theorem ZaZ (cs:List AV) (off:Nat) (x:AV) (h:off < cs.length):cs.take off++[x]++cs.drop (off+1)=cs.set off x:=by
 rw [Tw,if_pos h]
 simp
theorem Kk (σ:Nat→AV) (us:List (Nat×AV)) (d:Nat) (x:AV):Jm σ (us++[(d,x)])=upd (Jm σ us) d x:=by
 induction us generalizing σ with
 | nil => rfl
 | cons u us ih => obtain ⟨e, y⟩ := u; simp only [XP, Jm]; exact ih _
theorem ZmQ:∀ (us:List (Nat×AV)) (σ:Nat→AV) (i:Nat),Jm σ us i=σ i∨∃ u∈us,Jm σ us i=u.2
 | [], _, _ => .inl rfl
 | (d, x) :: us, σ, i => by
  simp only [Jm]
  rcases ZmQ us (upd σ d x) i with h | ⟨v,hv,h⟩
  ·by_cases hi:i=d
   ·subst hi
    exact .inr ⟨(i,x),by simp,by rw [h,Zs]⟩
   ·exact .inl (by rw [h,Zb _ _ hi])
  ·exact .inr ⟨v,by simp [hv],h⟩
theorem ZcW (us:List (Nat×AV)) (σ:Nat→AV) (d:Nat) (h:d∉us.map (·.1)):Jm σ us d=σ d:=by
 induction us generalizing σ with
 | nil => rfl
 | cons u us ih =>
  obtain ⟨e,y⟩:=u
  simp only [Xg,Xl,not_or] at h
  simp only [Jm]
  rw [ih _ h.2,Zb _ _ h.1]
theorem Zmv {σ:Nat→AV} {t d:Nat} {us:List (Nat×AV)} {cs:List AV} (hd:σ d = .box cs) (h:us = []∨Kw σ t us):d∉us.map (·.1):=by
 rcases h with rfl | ⟨h,_⟩
 ·simp
 ·intro hm
  obtain ⟨u,hu,rfl⟩:=Xj.1 hm
  obtain ⟨_,_,k,hk⟩:=h u hu
  exact (YE hk).1 cs hd
theorem Zey {T':Odr} {P:Program} {o:Oper} {σ:Nat→AV} {T:TypeId} {a:Operand} {t d off:Nat} {cs:List AV} {x:Bool} {e:TypeId} {xs:List (List AV)} {us:List (Nat×AV)} (ho:o.op = .store T a (.tmp t)) (ha:Zn P σ a = .ptr d off) (hd:σ d = .box cs)
  (ht:σ t = .own x e xs) (hn:P.cellsOf T=1) (hfit:off < cs.length) (hnr:Zca ((cs.drop off).take 1)∨Yc T' σ d []) (hus:(x=Xc∧us = [])∨Yc T' σ t us) :
  Yz T' P o σ .dead (((t,KX P x e xs)::us)++[(d,.box (cs.set off (.own x e xs)))]) [d]:=by
 intro c hc σ' tm w lim X hid hag hT hsim next Q hnx
 have hga:Zn P σ' a=Zn P σ a:=Zw fun t ht=>hid t (by simp [Zo (o:=o) (x:=a) (by rw [ho];simp [Op.operands]) ht])
 have hd':σ' d = .box cs:=by rw [hag d (by simp),hd]
 have ht':σ' t = .own x e xs:=by rw [hag t (by simp),ht]
 have hdt:d≠t:=fun h=>by rw [h,ht'] at hd';cases hd'
 have hus':(x=Xc∧us = [])∨Kw σ' t us:=hus.imp id fun h=>h.all hT
 have hva:=JF hc hsim ha hga
 rw [← hc] at hva
 obtain ⟨b,h1,h2,h3⟩:=K6 hsim hd' hva
 obtain ⟨i,hi⟩:=Zr (P:=P) (T:=T) (by omega)
 have hrd:=hsim.rel d
 rw [hd'] at hrd
 obtain ⟨b9,_,_,m1,m2,_⟩:=(show ZG c.P w lim (X d) cs _ from hrd)
 obtain ⟨X1,k1,k2,k3,k4⟩:=hsim.freeAll (us:=us) ht' hus'
 have hd1:Jm σ' ((t,KX c.P x e xs)::us) d = .box cs:=by
  rw [ZcW _ _ _ ?_,hd']
  simp only [Xg,Xl,not_or]
  exact ⟨hdt,Zmv hd' (hus'.imp (fun h=>h.2) id)⟩
 have hr1:=k1.rel d
 rw [hd1] at hr1
 obtain ⟨b0,arr,ty,g1,g2,g3,g4,g5,g6,g7⟩:=(show ZG c.P w lim (X1 d) cs _ from hr1)
 have hb0:b0=b:=by
  rw [h1] at m1
  rw [m2] at g2
  simp only [Value.pointer.injEq,Xf,Addr.mk.injEq,and_true] at g2
  have:=Xr m1
  omega
 subst hb0
 have hset:=k1.setCells (off:=off) (vc:=[.own x e xs]) (us:=[tm.getD t undef]) (fun i=>if i=0 then X t 0 else Xe) hd1 g1 (by simp;omega) rfl
  (fun z hz=>by simp at hz;subst hz;exact .inr (.inl ⟨x,e,xs,rfl⟩)) (fun j z u hz hu=>by
   cases j with
   | zero =>
    simp only [XB,Xf] at hz hu
    subst hz
    subst hu
    show ZV c.P w lim x e xs _ (if 0=0 then X t 0 else Xe)
    rw [if_pos rfl]
    exact k2
   | succ j => simp at hz) g3 (fun k h1 h2 i hi hr => by
   rcases hnr with hnr | hdr
   ·exact ZdC k1 hd1 hnr h1 (by simpa using h2) hr
   ·rcases ZmQ ((t,KX c.P x e xs)::us) σ' i with h | ⟨u,hu,h⟩
    ·rw [h] at hr
     have:=(hdr.all hT).2 i (k+1) hi hr
     simp at this
    ·rw [h] at hr
     rcases Xl.1 hu with rfl | hu
     ·cases x<;>rcases hr with hr | ⟨_,hr⟩ <;> cases hr
     ·rcases hus' with ⟨_,rfl⟩ | hda
      ·simp at hu
      ·rw [(hda.1 u hu).2.1] at hr
       rcases hr with hr | ⟨_,hr⟩ <;> cases hr) (fun j b' hb'=>by
   by_cases hj:j=0
   ·subst hj
    rw [if_pos rfl] at hb'
    exact ⟨by simp,(k3 b' hb').1,(hsim.ours t 0 b' hb').1,(k3 b' hb').2,fun i' hi'=>by
     by_cases hz:i'=0
     ·exact hz.symm
     ·rw [if_neg hz] at hi';cases hi'⟩
   ·rw [if_neg hj] at hb';cases hb') (hnw:=fun j e1 xs1 b' m1 m2 m3=>by
   by_cases hj:j=0
   ·subst hj
    rw [if_pos rfl] at m3
    simp only [XB,Xf,AV.own.injEq] at m1
    obtain ⟨rfl,rfl,rfl⟩:=m1
    rw [k4 _ (XV hsim.ntN (XR _ _))]
    exact hsim.nst t 0 _ _ b' (by rw [ht'];rfl) m2 m3
   ·rw [if_neg hj] at m3;cases m3)
 refine JA (w':=w.setRow b0 (arr.toList.take off++[tm.getD t undef]++arr.toList.drop (off+1)).toArray) ?_ (hnx undef _ ?_)
 ·have hcell:(tm.getD t undef).cells = [tm.getD t undef].toArray∧(tm.getD t undef).oneCell'=Xb:=ZV.cells1 k2
  have hst:=JY (P:=P) (T:=T) (w:=w) (b:=b0) (off:=off) (v:=tm.getD t undef) hi hcell.1 (by simp [hn]) g3 (by simp [g4];omega) (fun u hu=>by
   simp at hu
   subst hu
   simpa using hcell.2)
  have hev:Act.eval ⟨tm,[]⟩ (.tmp t)=tm.getD t undef:=rfl
  simp only [execOp,ho,h2,hev,Sem.run_bind,hst,Result.andThen_ok,Sem.run_pure]
  rfl
 ·have hl:cs.take off++[.own x e xs]++cs.drop (off + [AV.own x e xs].length)=cs.set off (.own x e xs):=ZaZ cs off _ hfit
  rw [hl,hc] at hset
  rw [Kk]
  exact Zq hset rfl (k:=0) trivial
theorem Za8 {P:Program} {o:Oper} {σ:Nat→AV} {T:TypeId} {a:Operand} {d off:Nat} {cs:List AV} {e:TypeId} {xs:List (List AV)} (ho:o.op = .load T a) (hT:ZS P T=Xa Xc)
  (ha:Zn P σ a = .ptr d off) (hd:σ d = .box cs) (hx:cs[off]? = Xa (.own Xb e xs)):Jg P o σ (.mref d (off+1)) [] [d]:=by
 refine Zt [d] rfl fun c hc σ' tm w lim X hg hfp hsim=>?_
 rw [ho] at hg
 have hv:=JF hc hsim ha (hg a (by simp [Op.operands]))
 have hd':σ' d = .box cs:=by rw [hfp d (by simp),hd]
 rw [← hc] at hv
 obtain ⟨b,h1,h2,h3⟩:=K6 hsim hd' hv
 have hlt:off < cs.length:=(Xi.1 hx).1
 obtain ⟨b0,arr,ty,g1,g2,g3,g4,g5,g6,g7⟩:=h3
 have hb0:b0=b:=by rw [g1] at h1;exact Xr h1
 subst hb0
 have hu:arr[off]? = Xa arr[off]:=XZ (by omega)
 refine ⟨arr[off],?_,e,xs,by rw [hd'];simp only [Zp,hx],?_⟩
 ·have hcell:w.cell? ⟨b0,off,Xe⟩=Xa arr[off]:=by rw [Zh g3];exact hu
  simp [execOp,ho,h2,Jw hT hcell]
 ·have:=ZV.sliceV (show ZV c.P w lim Xb e xs arr[off] (X d (off+1)) from g7 off _ _ hx hu) (hsim.deepB (xs:=xs) (by rw [hd'];simp only [ZY,hx]))
  rw [hc] at this
  exact this
theorem Zbg {T':Odr} {P:Program} {o:Oper} {σ:Nat→AV} {T:TypeId} {a:Operand} {d off:Nat} {cs:List AV} {e:TypeId} {xs:List (List AV)} (ho:o.op = .load T a) (hT:ZS P T=Xa Xc)
  (ha:Zn P σ a = .ptr d off) (hd:σ d = .box cs) (hx:cs[off]? = Xa (.own Xb e xs)) (hk:T'.kp d off=Xb):Yz T' P o σ (.mref d (off+1)) [] []:=by
 refine ZcL hd fun σ' hrel=>?_
 obtain ⟨cs2,y,h1,h2,h3⟩:=Zhq hrel hd hk hx
 obtain ⟨ys,rfl⟩:=ZiT h3
 exact ⟨cs2,h1,fun σ2 g1 g2=>Za8 ho hT ((ZcU hd g1 g2 a).trans ha) g2 h2⟩
theorem Zgz {P:Program} {o:Oper} {σ:Nat→AV} {T:TypeId} {a:Operand} {d off:Nat} {cs:List AV} {e:TypeId} {xs:List (List AV)} (ho:o.op = .load T a) (hT:ZS P T=Xa Xc)
  (ha:Zn P σ a = .ptr d off) (hd:σ d = .box cs) (hx:cs[off]? = Xa (.own Xc e xs)):Jg P o σ (.own Xc e xs) [(d,.box (cs.set off (.slice Xc (P.cellsOf e) xs)))] [d]:=by
 intro c hc σ' tm w lim X hid hag hsim next Q hn
 have hg:Zn P σ' a=Zn P σ a:=Zw fun t ht=>hid t (by simp [Zo (o:=o) (x:=a) (by rw [ho];simp [Op.operands]) ht])
 have hv:=JF hc hsim ha hg
 have hd':σ' d = .box cs:=by rw [hag d (by simp),hd]
 rw [← hc] at hv
 obtain ⟨b,h1,h2,h3⟩:=K6 hsim hd' hv
 have hlt:off < cs.length:=(Xi.1 hx).1
 have hrel:=hsim.rel d
 rw [hd'] at hrel
 obtain ⟨b0,arr,ty,g1,g2,g3,g4,g5,g6,g7⟩:=(show ZG c.P w lim (X d) cs _ from hrel)
 have hb0:b0=b:=by rw [g1] at h1;exact Xr h1
 subst hb0
 have hlt':off < arr.size:=by omega
 have hu:arr[off]? = Xa arr[off]:=XZ hlt'
 have hown:ZV c.P w lim Xc e xs arr[off] (X d (off+1)):=g7 off _ _ hx hu
 have hdn:d < c.nt:=by
  rcases Xx d c.nt with hlt | hge
  ·exact hlt
  ·have:=hsim.out d hge;rw [hd'] at this;rcases this with h0 | h0<;>cases h0
 have h1':Sim c (upd σ' d (.box (cs.set off (.slice Xc (P.cellsOf e) xs)))) tm w lim (Ke X d fun k=>if k=off+1 then Xe else X d k):=by
  refine hsim.putRow (S:=fun _=>False) _ (ZU.refl w lim _) (fun _ hs=>hs.elim) hdn rfl (fun j _=>rfl) (.inr ⟨⟨_,rfl⟩,by rw [if_neg (by omega)],rfl⟩) (fun i q hi hr=>?_) ?_ (fun k b hk=>?_) (fun k k' b hk hk'=>?_) (hns:=fun k e1 xs1 b m1 m2 m3=>?_)
  ·obtain ⟨p,hp⟩:=Y4 hsim hr
   rw [hd'] at hp
   cases q with
   | zero => simp [Zp] at hp
   | succ q =>
    have hqo:q≠off:=by
     intro he
     subst he
     simp [Zp,hx] at hp
    refine ⟨fun e2 xs2 hex=>⟨xs2,?_,rfl⟩,by rw [if_neg (by omega)],fun _ _=>.of rfl⟩
    rw [hd'] at hex
    simp only [Zp,Wg (Ne.symm hqo)] at hex ⊢
    exact hex
  ·refine ⟨b0,arr,ty,by rw [Zl];exact g1,g2,g3,by simp [g4],g5,fun y hy=>?_,fun j y u hy hju=>?_⟩
   ·obtain ⟨j,hj⟩:=XK.1 hy
    by_cases hji:j=off
    ·subst hji
     rw [X8 hlt] at hj
     simp only [Xf] at hj
     subst hj
     exact .inl rfl
    ·rw [Wg (fun h=>hji h.symm)] at hj
     exact g6 y (Xh hj)
   ·rw [Zl]
    by_cases hji:j=off
    ·subst hji
     rw [X8 hlt] at hy
     simp only [Xf] at hy
     subst hy
     rw [hu] at hju
     simp only [Xf] at hju
     subst hju
     have:=ZV.rep hown Xc rfl
     rw [hc] at this
     exact this
    ·rw [Wg (fun h=>hji h.symm)] at hy
     rw [if_neg (by omega)]
     exact g7 j y u hy hju
  ·split at hk
   ·cases hk
   ·exact ⟨(hsim.ours d k b hk).1,(hsim.ours d k b hk).2,fun a j ha hj=>ha (hsim.dist a j d k b hj hk).1⟩
  ·split at hk<;>split at hk'
   ·omega
   ·cases hk
   ·cases hk'
   ·exact (hsim.dist d k d k' b hk hk').2
  ·rcases JU m1 with ⟨_,h⟩ | ⟨h,h'⟩
   ·cases h
   ·rw [if_neg h] at m3
    exact hsim.nst d k e1 xs1 b (by rw [hd'];exact h') m2 m3
 refine Zi (v:=arr[off]) (w':=w) ?_ (hn _ w (ZT h1' hown (fun b hb=>⟨(hsim.ours d _ b hb).2,fun a j haj=>?_⟩) (fun hx=>by cases hx) fun hx=>by cases hx))
 ·have hcell:w.cell? ⟨b0,off,Xe⟩=Xa arr[off]:=by rw [Zh g3];exact hu
  simp [execOp,ho,h2,Jw hT hcell]
 ·by_cases ha:a=d
  ·subst ha
   rw [Zl] at haj
   split at haj
   ·cases haj
   ·rename_i hne
    exact hne (hsim.dist a j a (off+1) b haj hb).2
  ·rw [Zc X _ ha] at haj
   exact ha (hsim.dist a j d (off+1) b haj hb).1
theorem Zew {T':Odr} {P:Program} {o:Oper} {σ:Nat→AV} {T:TypeId} {a:Operand} {d off:Nat} {cs:List AV} {e:TypeId} {xs:List (List AV)} {us:List (Nat×AV)} (ho:o.op = .load T a) (hT:ZS P T=Xa Xc)
  (ha:Zn P σ a = .ptr d off) (hd:σ d = .box cs) (hx:cs[off]? = Xa (.own Xb e xs)) (hus:Yc T' σ d us) (hmv:Mv P e xs):Yz T' P o σ (.own Xb e xs) (us++[(d,.box (cs.set off .gone))]) [d]:=by
 intro c hc σ' tm w lim X hid hag hT' hsim next Q hn
 have hg:Zn P σ' a=Zn P σ a:=Zw fun t ht=>hid t (by simp [Zo (o:=o) (x:=a) (by rw [ho];simp [Op.operands]) ht])
 have hv:=JF hc hsim ha hg
 have hd':σ' d = .box cs:=by rw [hag d (by simp),hd]
 rw [← hc] at hv
 obtain ⟨b,h1,h2,h3⟩:=K6 hsim hd' hv
 have hlt:off < cs.length:=(Xi.1 hx).1
 have hda:=hus.all hT'
 obtain ⟨hd1,hd2⟩:=hda
 obtain ⟨X1,k1,k2⟩:=hsim.drops us fun u hu=>by
  obtain ⟨m0,m1,k,m3⟩:=hd1 u hu
  obtain ⟨p1,p2,p3⟩:=YE m3
  exact ⟨m1,p2,JL hsim (fun e=>by rw [e] at m3;rcases m3 with m3 | ⟨_,m3⟩ <;> cases m3) p3⟩
 have hdm:d∉us.map (·.1):=by
  intro hm
  obtain ⟨u,hu,rfl⟩:=Xj.1 hm
  exact (hd1 u hu).1 rfl
 have hdead:∀ (σ:Nat→AV) (i:Nat),Jm σ us i=if i∈us.map (·.1) then .dead else σ i:=fun σ i=>Kr us σ i fun u hu=>(hd1 u hu).2.1
 have hds:Jm σ' us d = .box cs:=by rw [hdead,if_neg hdm,hd']
 have hnor:∀ i k,i≠d→Jh (Jm σ' us i) d k→False:=fun i k hi hr=>by
  rw [hdead] at hr
  split at hr
  ·rcases hr with hr | ⟨_,hr⟩ <;> cases hr
  ·rename_i hm
   exact hm (hd2 i k hi hr)
 have hXd:X1 d=X d:=k2 d hdm
 have hrel:=k1.rel d
 rw [hds] at hrel
 obtain ⟨b0,arr,ty,g1,g2,g3,g4,g5,g6,g7⟩:=(show ZG c.P w lim (X1 d) cs _ from hrel)
 have hb0:b0=b:=by rw [hXd] at g1;rw [g1] at h1;exact Xr h1
 subst hb0
 have hlt':off < arr.size:=by omega
 have hu:arr[off]? = Xa arr[off]:=XZ hlt'
 have hown:ZV c.P w lim Xb e xs arr[off] (X1 d (off+1)):=g7 off _ _ hx hu
 have hdn:d < c.nt:=by
  rcases Xx d c.nt with hlt | hge
  ·exact hlt
  ·have:=hsim.out d hge;rw [hd'] at this;rcases this with h0 | h0<;>cases h0
 have h1':Sim c (upd (Jm σ' us) d (.box (cs.set off .gone))) tm w lim (Ke X1 d fun k=>if k=off+1 then Xe else X1 d k):=by
  refine k1.putRow (S:=fun _=>False) _ (ZU.refl w lim _) (fun _ hs=>hs.elim) hdn rfl (fun j _=>rfl) (.inr ⟨⟨_,rfl⟩,by rw [if_neg (by omega)],rfl⟩) (fun i q hi hr=>(hnor i q hi hr).elim) ?_ (fun k b hk=>?_) (fun k k' b hk hk'=>?_) (hns:=fun k e1 xs1 b m1 m2 m3=>?_)
  ·refine ⟨b0,arr,ty,by rw [Zl];exact g1,g2,g3,by simp [g4],g5,fun y hy=>?_,fun j y u hy hju=>?_⟩
   ·obtain ⟨j,hj⟩:=XK.1 hy
    by_cases hji:j=off
    ·subst hji
     rw [X8 hlt] at hj
     simp only [Xf] at hj
     subst hj
     exact .inr (.inr rfl)
    ·rw [Wg (fun h=>hji h.symm)] at hj
     exact g6 y (Xh hj)
   ·rw [Zl]
    by_cases hji:j=off
    ·subst hji
     rw [X8 hlt] at hy
     simp only [Xf] at hy
     subst hy
     exact trivial
    ·rw [Wg (fun h=>hji h.symm)] at hy
     rw [if_neg (by omega)]
     exact g7 j y u hy hju
  ·split at hk
   ·cases hk
   ·exact ⟨(k1.ours d k b hk).1,(k1.ours d k b hk).2,fun a j ha hj=>ha (k1.dist a j d k b hj hk).1⟩
  ·by_cases e1:k=off+1
   ·rw [if_pos e1] at hk;cases hk
   ·by_cases e2:k'=off+1
    ·rw [if_pos e2] at hk';cases hk'
    ·rw [if_neg e1] at hk
     rw [if_neg e2] at hk'
     exact (k1.dist d k d k' b hk hk').2
  ·rcases JU m1 with ⟨_,h⟩ | ⟨h,h'⟩
   ·cases h
   ·rw [if_neg h] at m3
    exact k1.nst d k e1 xs1 b (by rw [hds];exact h') m2 m3
 rw [← Kk] at h1'
 refine Zi (v:=arr[off]) (w':=w) ?_ (hn _ w (ZT h1' hown (fun b hb=>⟨(k1.ours d _ b hb).2,fun a j haj=>?_⟩) (fun _=>.mv (by rw [hc];exact hmv)) fun _ hdp b hb=>?_))
 rotate_left 2
 ·have:=hsim.ntN
  rw [Zc X1 _ (show ngN+b≠d by omega)]
  exact k1.nst d (off+1) e xs b (by rw [hds];simp only [ZY,hx]) hdp hb
 ·have hcell:w.cell? ⟨b0,off,Xe⟩=Xa arr[off]:=by rw [Zh g3];exact hu
  simp [execOp,ho,h2,Jw hT hcell]
 ·by_cases ha:a=d
  ·subst ha
   rw [Zl] at haj
   split at haj
   ·cases haj
   ·rename_i hne
    exact hne (k1.dist a j a (off+1) b haj hb).2
  ·rw [Zc X1 _ ha] at haj
   exact ha (k1.dist a j d (off+1) b haj hb).1
theorem Wv {P:Program} {T ty e:TypeId} {i:TypeInfo} (hT:P.underlying T=Xa (.slice e)) (hi:P.info? e=Xa i) (w:World) (base:Option Addr) (n cap:Nat) (hn:n≤cap) (a:Option Addr) (c:Nat) :
  (Builtin.append_ #[T,T] ty #[.slice base n cap,.slice a 0 c]).run P w = .ok (.slice base n cap) w:=by
 cases a<;>cases base <;>
  simp [Builtin.append_,run_underlying hT,sizeOf,typeInfo,hi,Builtin.lenOf,hn,Builtin.firstCells,loadCells,loadCellsFrom,storeCells]
theorem Zq8 {P:Program} {w:World} {lim:Lm} (x:Bool) {e:TypeId} {zs:List (List AV)} {us:List Value} {arr:Array Value} {cap:Nat} (h1:us.length=zs.length*P.cellsOf e) (h2:zs.length≤cap) (h3:cap≤maxLen)
  (h4:arr.size=cap*P.cellsOf e) (h5:arr.toList.take us.length=us) (h6:∀ x∈zs,x.length=P.cellsOf e) (h7:∀ x∈zs,∀ c∈x,c.isCell=Xb)
  (h8:∀ (j:Nat) (c:AV) (u:Value),zs.flatten[j]? = Xa c→us[j]? = Xa u→Rep w lim c u) (S:Nat→Prop) :
  ZV P (w.drew.alloc (.cells arr e)) ⟨fun b=>if b=w.heap.size then (if x=Xb then 0 else us.length) else lim b,lim.t⟩ x e zs (.slice (Xa ⟨w.heap.size,0,Xe⟩) zs.length cap) (Xa w.heap.size)∧
  ZU w lim (w.drew.alloc (.cells arr e)) ⟨fun b=>if b=w.heap.size then (if x=Xb then 0 else us.length) else lim b,lim.t⟩ S:=by
 have hstep:ZU w lim (w.drew.alloc (.cells arr e)) ⟨fun b=>if b=w.heap.size then (if x=Xb then 0 else us.length) else lim b,lim.t⟩ S:=by
  have:=KJ w.drew lim arr e (if x=Xb then 0 else us.length) S
  exact ⟨this.os,this.tape,this.output,this.size,this.frz,this.blk,⟨this.ext.old,this.ext.t⟩,rfl⟩
 refine ⟨.inl ⟨us,⟨h1,.inr ⟨w.heap.size,cap,arr,rfl,Wh _,J9 w.drew arr e,h2,h3,h4,by rw [← h1];exact h5⟩⟩,rfl,fun b hb=>?_,h6,h7,fun j c u hc hu=>(h8 j c u hc hu).mono hstep.ext⟩,hstep⟩
 simp only [Xf] at hb
 subst hb
 exact if_pos rfl
def RdS (w:World) (lim:Lm) (s:Nat) (ys:List (List AV)) (v:Value):Prop:=
 (ys = []∧∃ a c,v = .slice a 0 c)∨∃ (b o cap:Nat) (us:List Value),v = .slice (Xa ⟨b,o,Xe⟩) ys.length cap∧(∀ e∈ys,e.length=s)∧(∀ e∈ys,∀ c∈e,c.isCell=Xb)∧us.length=ys.length*s∧
  (∀ (j:Nat) (u:Value),us[j]? = Xa u→w.cell? ⟨b,o+j,Xe⟩=Xa u)∧∀ (j:Nat) (c:AV) (u:Value),ys.flatten[j]? = Xa c→us[j]? = Xa u→Rep w lim c u
theorem RdS.of {w:World} {lim:Lm} {f:Bool} {s:Nat} {ys:List (List AV)} {v:Value} (h:Rep w lim (.slice f s ys) v):RdS w lim s ys v:=by
 cases h with
 | sliceN => exact .inl ⟨rfl, _, _, rfl⟩
 | sliceE _ => exact .inl ⟨rfl, _, _, rfl⟩
 | @sliceC _ _ _ b o ycap news hs hcl hf hle hlim hnl hncell hnr => exact .inr ⟨b, o, ycap, news, rfl, hs, hcl, hnl, hncell, hnr⟩
theorem RdS.form {w:World} {lim:Lm} {s:Nat} {ys:List (List AV)} {v:Value} (h:RdS w lim s ys v):∃ a c,v = .slice a ys.length c:=by
 rcases h with ⟨rfl,a,c,h⟩ | ⟨b,o,cap,us,h,_⟩
 ·exact ⟨a,c,h⟩
 ·exact ⟨_,_,h⟩
theorem Zd9 {P:Program} {T ty e:TypeId} {i:TypeInfo} {z:Value} {w:World} {lim:Lm} {xs ys:List (List AV)} {v yv:Value} {ob:Option Nat} {x:Bool} (hT:P.underlying T=Xa (.slice e)) (hi:P.info? e=Xa i)
  (hz:i.zero=Xa z) (hzs:z.cells.size=i.size) (hx:ZV P w lim x e xs v ob) {b o ycap:Nat} {news:List Value} (hm:ys≠[]) (hyv:yv = .slice (Xa ⟨b,o,Xe⟩) ys.length ycap) (hs:∀ x∈ys,x.length=P.cellsOf e) (hcl:∀ x∈ys,∀ c∈x,c.isCell=Xb) (hnl:news.length=ys.length*P.cellsOf e)
  (hncell:∀ (j:Nat) (u:Value),news[j]? = Xa u→w.cell? ⟨b,o+j,Xe⟩=Xa u) (hnr:∀ (j:Nat) (c:AV) (u:Value),ys.flatten[j]? = Xa c→news[j]? = Xa u→Rep w lim c u) (hroom:(xs.length+ys.length)*(i.bytes+1)≤ZZ) (hnm:Zj P e=Xc) :
  ∃ v' w' lim' ob',(Builtin.append_ #[T,T] ty #[v,yv]).run P w = .ok v' w'∧ZV P w' lim' x e (xs++ys) v' ob'∧ZU w lim w' lim' (fun b=>ob=Xa b)∧(ob'=ob∨ob'=Xa w.heap.size)∧
   ∃ (us:List Value) (b':Nat) (arr:Array Value),ob'=Xa b'∧us.length=xs.length*P.cellsOf e∧w'.heap[b']? = Xa (.cells arr e (0,0))∧arr.toList.take (us++news).length=us++news∧∀ g,ob=Xa g→∀ (j:Nat) (u:Value),us[j]? = Xa u→w.cell? ⟨g,j,Xe⟩=Xa u:=by
 have hsz:P.cellsOf e=i.size:=ZH hi
 have hb1:xs.length+ys.length≤1099511627776:=by
  have:(xs.length+ys.length)*1≤(xs.length+ys.length)*(i.bytes+1):=UW _ (by omega)
  unfold ZZ at hroom
  omega
 have hb2:(xs.length+ys.length)*i.bytes≤1099511627776:=by
  have:(xs.length+ys.length)*i.bytes≤(xs.length+ys.length)*(i.bytes+1):=UW _ (by omega)
  unfold ZZ at hroom
  omega
 subst hyv
 have hm0:0 < ys.length:=List.length_pos_iff.2 hm
 have hnews:∀ (j:Nat) (u:Value),news[j]? = Xa u→w.cell? ((⟨b,o,Xe⟩:Addr).add j)=Xa u:=fun j u hj=>by rw [Jc];exact hncell j u hj
 have hcells:∀ x∈xs++ys,x.length=P.cellsOf e:=by
  intro x hx'
  rcases Xt.1 hx' with h | h
  ·rcases hx.noMap hnm with ⟨_,_,_,_,h4,_⟩ | ⟨rfl,_⟩
   ·exact h4 x h
   ·simp at h
  ·exact hs x h
 have hcc:∀ x∈xs++ys,∀ c∈x,c.isCell=Xb:=by
  intro x hx'
  rcases Xt.1 hx' with h | h
  ·rcases hx.noMap hnm with ⟨_,_,_,_,_,h5,_⟩ | ⟨rfl,_⟩
   ·exact h5 x h
   ·simp at h
  ·exact hcl x h
 have hnew1:∀ u∈news,u.oneCell'=Xb:=by
  intro u hu
  obtain ⟨j,hj⟩:=XK.1 hu
  have hlt:j < ys.flatten.length:=by
   rw [Zg ys _ hs,← hnl];exact (Xi.1 hj).1
  have hcell:=hnr j _ u (Xp hlt) hj
  obtain ⟨y,hy1,hy2⟩:=Uw.1 (Wl hlt)
  exact hcell.oneCell (hcl y hy1 _ hy2)
 have both:∀ (us:List Value),us.length=xs.length*P.cellsOf e→(∀ x∈xs,x.length=P.cellsOf e)→(∀ (j:Nat) (c:AV) (u:Value),xs.flatten[j]? = Xa c→us[j]? = Xa u→Rep w lim c u)→
   ∀ (j:Nat) (c:AV) (u:Value),(xs++ys).flatten[j]? = Xa c→(us++news)[j]? = Xa u→Rep w lim c u:=by
  intro us hul hxl hur j c u hc hu
  have hfl:xs.flatten.length=us.length:=by rw [Zg xs _ hxl,hul]
  rw [Us] at hc
  by_cases hj:j < us.length
  ·rw [Xv (by omega)] at hc
   rw [Xv hj] at hu
   exact hur j c u hc hu
  ·rw [Xy (by omega),hfl] at hc
   rw [Xy (by omega)] at hu
   exact hnr _ c u hc hu
 have grown:∀ (us:List Value) (old:Nat),us.length=xs.length*P.cellsOf e→(∀ (j:Nat) (c:AV) (u:Value),xs.flatten[j]? = Xa c→us[j]? = Xa u→Rep w lim c u)→(∀ x∈xs,x.length=P.cellsOf e)→
   ∃ lim',ZV P (w.drew.alloc (.cells (us.toArray++news.toArray++Builtin.zeroCells z.cells (grownCap w (xs.length+ys.length) old e-(xs.length+ys.length))) e)) lim' x e (xs++ys) (.slice (Xa ⟨w.heap.size,0,Xe⟩) (xs.length+ys.length) (grownCap w (xs.length+ys.length) old e)) (Xa w.heap.size)∧
    ZU w lim (w.drew.alloc (.cells (us.toArray++news.toArray++Builtin.zeroCells z.cells (grownCap w (xs.length+ys.length) old e-(xs.length+ys.length))) e)) lim' (fun b=>ob=Xa b):=by
  intro us old hul hur hxl
  have hge:=grownCap_ge w (xs.length+ys.length) old e
  have hml:=grownCap_le_maxLen w (xs.length+ys.length) old e (by simp only [maxLen];omega)
  have:=Zq8 (P:=P) (w:=w) (lim:=lim) x (e:=e) (zs:=xs++ys) (us:=us++news) (arr:=us.toArray++news.toArray++Builtin.zeroCells z.cells (grownCap w (xs.length+ys.length) old e-(xs.length+ys.length)))
   (cap:=grownCap w (xs.length+ys.length) old e) (by rw [XA,XA,hul,hnl,Wb]) (by rw [XA];exact hge) hml ?_ ?_ hcells hcc (both us hul hxl hur) (fun b=>ob=Xa b)
  ·have hla:(xs++ys).length=xs.length+ys.length:=XA
   rw [hla] at this
   exact ⟨_,this.1,this.2⟩
  ·simp only [Array.size_append,Uu,size_zeroCells,hzs,hul,hnl,hsz,← Wb]
   congr 1
   omega
  ·simp only [Tl]
   exact UX
 rcases hx.noMap hnm with ⟨us,hr,hob,hlimo,hxl,hxc,hur⟩ | ⟨rfl,hob,b',hv⟩
 ·rcases hr.2 with ⟨hv,hn⟩ | ⟨g,cap,cur,hv,hbg,hg,hnc,hcm,hcs,htake⟩
  ·have hxe:xs = []:=XY hn
   have hue:us = []:=XY (by rw [hr.1,hn];simp)
   subst hxe
   subst hue
   have hrun:=run_append_nil (P:=P) w T ty e i z hT hi hz ⟨b,o,Xe⟩ ys.length ycap news (by rw [hnl,hsz]) hnews hm0 (by omega) (by simp only [Wi,XF] at hb2;omega)
   obtain ⟨lim',h1,h2⟩:=grown [] 0 (by simp) (by simp) (by simp)
   simp only [Wi,XF] at h1 h2
   have hemp:([] : List Value).toArray++news.toArray=news.toArray:=by simp
   rw [hemp] at h1 h2
   rw [hv]
   exact ⟨_,_,lim',_,hrun,h1,h2,.inr rfl,[],_,_,rfl,by simp,J9 w.drew _ e,by simp only [Tl,XX];exact UX,fun g _ j u h=>by simp at h⟩
  ·have hobg:ob=Xa g:=by rw [← hob,hv];rfl
   by_cases hroom':xs.length+ys.length≤cap
   ·have hfit:xs.length*i.size+news.length≤cur.size:=by rw [hnl,hcs,hsz,← Wb];exact XN _ hroom'
    have hrun:=run_append_room (P:=P) w T ty e i hT hi g xs.length cap cur hg ⟨b,o,Xe⟩ ys.length ycap news (by rw [hnl,hsz]) hnews hnew1 hroom' hfit
    have htake':cur.toList.take (xs.length*i.size)=us:=by rw [← hsz];exact htake
    rw [htake'] at hrun
    have hul:us.length=xs.length*i.size:=by rw [hr.1,hsz]
    have hstep:ZU w lim (w.setRow g (us++news++cur.toList.drop (xs.length*i.size+news.length)).toArray) ⟨fun k=>if k=g then (if x=Xb then 0 else us.length+news.length) else lim k,lim.t⟩ (fun k=>ob=Xa k):=by
     refine ⟨rfl,rfl,rfl,by simp,fun a _=>Yj w g cur _ e hg a,fun k _ hk=>⟨setRow_other w g k _ (fun h=>hk (by rw [hobg,h])),if_neg (fun h=>hk (by rw [hobg,h]))⟩,⟨fun k hk=>⟨?_,fun p u hp hu=>?_⟩,fun _ _ h=>h⟩,rfl⟩
     ·show lim k≤if k=g then (if x=Xb then 0 else us.length+news.length) else lim k
      split
      ·rename_i h;subst h;rw [hlimo k hobg];split<;>omega
      ·exact XD _
     ·by_cases h:k=g
      ·subst h
       have hp:p < us.length:=by
        rw [hlimo k hobg] at hp
        split at hp<;>omega
       rw [Zh (setRow_heap w k cur _ e (0,0) hg)]
       rw [Zh hg] at hu
       have h1:us[p]? = Xa u:=by
        rw [← htake',Xw,if_pos (by omega)]
        simpa using hu
       rw [Tc,Xu,Xv hp]
       exact h1
      ·unfold World.cell? at hu ⊢
       rw [setRow_other w g k _ h]
       exact hu
    refine ⟨_,_,_,Xa g,by rw [hv];exact hrun,.inl ⟨us++news,⟨by rw [XA,XA,hul,hnl,hsz,Wb],.inr ⟨g,cap,_,?_,Wh _,setRow_heap w g cur _ e (0,0) hg,by rw [XA];exact hroom',hcm,?_,?_⟩⟩,rfl,fun b' hb'=>?_,hcells,hcc,fun j c u hc hu=>(both us hr.1 hxl hur j c u hc hu).mono hstep.ext⟩,hstep,.inl hobg.symm,us,g,_,rfl,hr.1,setRow_heap w g cur _ e (0,0) hg,UX,fun g' hg' j u hj=>by
     rw [hobg] at hg';cases hg'
     have:=hr.cells (g:=g) (by rw [hv];rfl) j u hj
     rw [Jc,XF] at this
     exact this⟩
    ·rw [XA]
    ·simp only [Uu,XA,Ue,Uj]
     rw [hcs,hsz]
     rw [hcs,hsz] at hfit
     omega
    ·have:(xs++ys).length*P.cellsOf e=(us++news).length:=by rw [XA,XA,hul,hnl,hsz,Wb]
     rw [this]
     exact UX
    ·simp only [Xf] at hb'
     subst hb'
     rw [XA]
     exact if_pos rfl
   ·have holds:∀ (j:Nat) (u:Value),us[j]? = Xa u→w.cell? ((⟨g,0,Xe⟩:Addr).add j)=Xa u:=hr.cells (g:=g) (by rw [hv];rfl)
    have hrun:=run_append_grow (P:=P) w T ty e i z hT hi hz ⟨g,0,Xe⟩ xs.length cap us (by rw [hr.1,hsz]) holds ⟨b,o,Xe⟩ ys.length ycap news (by rw [hnl,hsz]) hnews (by omega) (by omega) (growslice_fits (by omega) (by omega))
    obtain ⟨lim',h1,h2⟩:=grown us cap hr.1 hur hxl
    exact ⟨_,_,lim',_,by rw [hv];exact hrun,h1,h2,.inr rfl,us,_,_,rfl,hr.1,J9 w.drew _ e,by simp only [Tl];exact UX,fun g' hg' j u hj=>by
     rw [hobg] at hg';cases hg'
     have:=holds j u hj
     rw [Jc,XF] at this
     exact this⟩
 ·have hrun:=run_append_grow (P:=P) w T ty e i z hT hi hz b' 0 0 [] (by simp) (by simp) ⟨b,o,Xe⟩ ys.length ycap news (by rw [hnl,hsz]) hnews (by omega) (by omega) (growslice_fits (by omega) (by simp only [Wi] at hb2;omega))
  obtain ⟨lim',h1,h2⟩:=grown [] 0 (by simp) (by simp) (by simp)
  exact ⟨_,_,lim',_,by rw [hv];exact hrun,h1,h2,.inr rfl,[],_,_,rfl,by simp,J9 w.drew _ e,by simp only [Tl,XX];exact UX,fun g _ j u h=>by simp at h⟩
theorem Y9 {P:Program} {T ty e:TypeId} {i:TypeInfo} {z:Value} {w:World} {lim:Lm} {xs ys:List (List AV)} {v yv:Value} {ob:Option Nat} {x:Bool} (hT:P.underlying T=Xa (.slice e)) (hi:P.info? e=Xa i)
  (hz:i.zero=Xa z) (hzs:z.cells.size=i.size) (hx:ZV P w lim x e xs v ob) (hy:RdS w lim (P.cellsOf e) ys yv) (hroom:(xs.length+ys.length)*(i.bytes+1)≤ZZ) (hnm:Zj P e=Xc) :
  ∃ v' w' lim' ob',(Builtin.append_ #[T,T] ty #[v,yv]).run P w = .ok v' w'∧ZV P w' lim' x e (xs++ys) v' ob'∧ZU w lim w' lim' (fun b=>ob=Xa b)∧(ob'=ob∨ob'=Xa w.heap.size):=by
 have hvform:∃ base cap,v = .slice base xs.length cap∧xs.length≤cap:=by
  rcases hx.noMap hnm with ⟨us,hr,_⟩ | ⟨rfl,_,a,rfl⟩
  ·rcases hr.2 with ⟨hv,hn⟩ | ⟨g,cap,cur,hv,_,_,hnc,_⟩
   ·exact ⟨Xe,0,by rw [hv,hn],by omega⟩
   ·exact ⟨_,cap,hv,hnc⟩
  ·exact ⟨_,0,rfl,XD _⟩
 by_cases hm:ys = []
 ·subst hm
  obtain ⟨base,cap,hv,hle⟩:=hvform
  obtain ⟨a,c,hyv⟩:=hy.form
  refine ⟨v,w,lim,ob,?_,by rw [List.append_nil];exact hx,ZU.refl w lim _,.inl rfl⟩
  rw [hv,hyv]
  exact Wv hT hi w base xs.length cap hle a c
 ·rcases hy with ⟨hye,_⟩ | ⟨b,o,ycap,news,hyv,hs,hcl,hnl,hncell,hnr⟩
  ·exact (hm hye).elim
  ·obtain ⟨v',w',lim',ob',h1,h2,h3,h4,_⟩:=Zd9 (ty:=ty) hT hi hz hzs hx hm hyv hs hcl hnl hncell hnr hroom hnm
   exact ⟨v',w',lim',ob',h1,h2,h3,h4⟩
theorem Zd4 {P:Program} {o:Oper} {σ:Nat→AV} (x:Bool) {T e:TypeId} {len:Nat} {parts:Array (Nat×Operand)} {i:TypeInfo} {z:Value} {zc cs cs':List AV} (ho:o.op = .buildSlice T len parts)
  (hT:P.underlying T=Xa (.slice e)) (hi:P.info? e=Xa i) (hz:i.zero=Xa z) (hzc:Zae z.cells.toList=Xa zc) (hzs:z.cells.size=i.size) (hs0:0 < i.size) (hbig:len*i.size≤1048576) (hnm:Zj P e=Xc)
  (hf:Zam (fun j=>Xa (j*i.size,i.size)) ((Xm len zc).flatten) (parts.toList.map fun p=>(p.1,Zn P σ p.2))=Xa cs)
  (hw:cs'.length=cs.length∧∀ (w:World) (lim:Lm) (us:List Value),JJ w lim cs us→JJ w lim cs' us):Jg P o σ (.own x e (YP i.size cs' len)) [] []:=by
 intro c hc σ' tm w lim X hid hag hsim next Q hn
 have hg:∀ p∈parts.toList,Zn P σ' p.2=Zn P σ p.2:=fun p hp=>Zw fun t ht=>hid t (by
  refine Zo (x:=p.2) ?_ ht
  rw [ho]
  simp only [Op.operands,List.mem_toArray]
  exact Xj.2 ⟨p,hp,rfl⟩)
 obtain ⟨h1,h2⟩:=ZbT hc hsim parts hg
 have hz0:=J1 (J6 (w:=w) (lim:=lim) hzc) len
 obtain ⟨us',h3,h4⟩:=ZcC (P:=P) (X:=X) (σ:=σ') (k:=0) _ _ _ _ _ hz0 h1 h2 hf
 have hzl:z.cells.toList.length=i.size:=by rw [← hzs];simp
 have hcl:cs.length=len*i.size:=by
  have hinv:∀ (parts:List (Nat×AV)) (cells out:List AV),Zam (fun j=>Xa (j*i.size,i.size)) cells parts=Xa out→out.length=cells.length:=by
   intro parts
   induction parts with
   | nil => intro cells out h; simp only [Zam, Xf] at h; rw [h]
   | cons p parts ih =>
    intro cells out h
    simp only [Zam] at h
    split at h
    ·split at h
     ·rename_i hcond
      rw [ih _ _ h]
      simp
      omega
     ·cases h
    ·cases h
  rw [hinv _ _ _ hf]
  have hzcl:zc.length=i.size:=by rw [(J6 (w:=w) (lim:=lim) hzc).1,hzl]
  simp [hzcl]
 replace h4:=hw.2 _ _ _ h4
 have hcl':cs'.length=len*i.size:=by rw [hw.1,hcl]
 have hb:(Instr.buildSlice T len (parts.map fun p=>(p.1,Act.eval ⟨tm,[]⟩ p.2))).run P w = .ok (.slice (Xa ⟨w.heap.size,0,Xe⟩) len len) (w.alloc (.cells us'.toArray e)):=by
  have hnb:¬ (2^24 < len*i.size):=by omega
  by_cases hnz:len*i.size=0
  ·have hl0:len=0:=(Nat.mul_eq_zero.1 hnz).elim id fun h=>by omega
   subst hl0
   have hr0:Array.range 0 = #[]:=rfl
   simp only [Instr.buildSlice,Sem.run_bind,run_underlying hT,Result.andThen_ok,sizeOf,typeInfo,run_program,hi,Sem.run_pure,gt_iff_lt,Nat.zero_mul,Nat.not_lt_zero,if_false,if_true,hr0,Array.map_empty]
   simp only [List.replicate_zero,List.flatten_nil] at h3
   rw [h3]
   simp [newRow]
  ·have hrep:=replicate_zero z.cells.toList len
   rw [hzl,Ui] at hrep
   simp only [Instr.buildSlice,Sem.run_bind,run_underlying hT,Result.andThen_ok,sizeOf,typeInfo,run_program,hi,Sem.run_pure,gt_iff_lt,if_neg hnb,if_neg hnz,zeroValue,hz]
   rw [hrep,h3]
   simp [newRow]
 have hsz:P.cellsOf e=i.size:=ZH hi
 have hstep:=KJ w lim us'.toArray e (if x=Xb then 0 else us'.length) (fun _=>False)
 have hel:(YP i.size cs' len).length=len:=by simp [YP]
 have hfl:=Vy i.size len cs' hcl'
 have h5:=h4.mono hstep.ext
 have hlu:us'.length=len*i.size:=by rw [← h4.1,hcl']
 have hlm:len≤maxLen:=by
  have:len*1≤len*i.size:=UW _ hs0
  have:(1048576:Nat)≤maxLen:=by decide
  omega
 have key:ZV P (w.alloc (.cells us'.toArray e)) ⟨fun b=>if b=w.heap.size then (if x=Xb then 0 else us'.length) else lim b,lim.t⟩ x e (YP i.size cs' len) (.slice (Xa ⟨w.heap.size,0,Xe⟩) (YP i.size cs' len).length len) (Xa w.heap.size):=by
  refine .inl ⟨us',⟨by rw [hel,hsz,hlu],.inr ⟨w.heap.size,len,us'.toArray,rfl,Wh _,J9 w _ e,by rw [hel];exact XD _,hlm,by simp [hsz,hlu],by rw [hel,hsz,← hlu];simp⟩⟩,rfl,fun b hb=>?_,fun x hx=>?_,fun x hx y hy=>?_,fun j y u hy hu=>?_⟩
  ·simp only [Xf] at hb
   subst hb
   exact if_pos rfl
  ·obtain ⟨j,hj,rfl⟩:=Xj.1 hx
   have hj':j < len:=List.mem_range.1 hj
   have hm:j*i.size+i.size≤len*i.size:=by rw [← X9];exact XN _ hj'
   simp [hcl',hsz]
   omega
  ·refine h5.2.1 y ?_
   rw [← hfl]
   exact Uw.2 ⟨x,hx,hy⟩
  ·rw [hfl] at hy
   exact h5.2.2 j y u hy hu
 rw [hel] at key
 have hw2:=hsim.world hstep fun _ hs=>hs.elim
 refine Zi (v:=.slice (Xa ⟨w.heap.size,0,Xe⟩) len len) (w':=w.alloc (.cells us'.toArray e)) (by simp only [execOp,ho,Sem.run_bind,hb,Result.andThen_ok,Sem.run_pure]) (hn _ _ (ZT hw2 (by rw [hc];exact key) (fun b hb=>?_) (fun _=>.cells fun b hb=>by cases hb;exact ⟨_,_,_,J9 w _ e⟩) fun _ hd=>by rw [hc,ZL hnm] at hd;cases hd))
 simp only [Xf] at hb
 subst hb
 exact ⟨.inr hsim.frm.size,fun i j=>Yi hsim i j⟩
theorem ZdD {T':Odr} {P:Program} {o:Oper} {σ:Nat→AV} {cl:Call} {T e:TypeId} {i:TypeInfo} {z:Value} {t:Nat} {y:Operand} {x:Bool} {xs ys:List (List AV)} {us:List (Nat×AV)} {f:Bool} (ho:o.op = .call cl) (hcl:cl.callee = .builtin .append)
  (hargs:cl.args.toList = [.tmp t,y]) (hts:cl.argTypes.toList = [T,T]) (hT:P.underlying T=Xa (.slice e)) (hi:P.info? e=Xa i) (hz:i.zero=Xa z) (hzs:z.cells.size=i.size)
  (ht:σ t = .own x e xs) (hy:Zn P σ y = .slice f i.size ys) (hroom:(xs.length+ys.length)*(i.bytes+1)≤ZZ) (hus:(x=Xc∧us = [])∨Yc T' σ t us) (hnm:Zj P e=Xc) :
  Yz T' P o σ (.own x e (xs++ys)) ((t,KX P x e xs)::us) []:=by
 have hargs':cl.args = #[.tmp t,y]:=by apply XG.1;rw [hargs]
 have hts':cl.argTypes = #[T,T]:=by apply XG.1;rw [hts]
 intro c hc σ' tm w lim X hid hag hTx hsim next Q hn
 have hsz:P.cellsOf e=i.size:=ZH hi
 have hgy:Zn P σ' y=Zn P σ y:=Zw fun t ht=>hid t (by simp [Zo (o:=o) (x:=y) (by rw [ho];simp [Op.operands,Call.operands,hargs',hcl]) ht])
 have ht':σ' t = .own x e xs:=by rw [hag t (by simp),ht]
 obtain ⟨X1,h1,h2,h3,_⟩:=hsim.freeAll (us:=us) ht' (hus.imp id fun h=>h.all hTx)
 have hyv:Rep w lim (.slice f (P.cellsOf e) ys) (Act.eval ⟨tm,[]⟩ y):=by rw [hsz];exact JF hc hsim hy hgy
 rw [hc] at h2
 obtain ⟨v',w',lim',ob',r1,r2,r3,r4⟩:=Y9 (ty:=o.type) hT hi hz hzs h2 (.of hyv) hroom hnm
 have hw:=h1.world r3 h3
 refine Zi (v:=v') (w':=w') ?_ (hn _ w' ?_)
 ·have hev:Act.eval ⟨tm,[]⟩ (.tmp t)=tm.getD t undef:=rfl
  simp only [execOp,ho,resolve,hcl,hargs',hts',Wn,Xg,Xz,Sem.run_bind,Sem.run_pure,Result.andThen_ok,invoke,builtin,hev,r1]
 ·rw [hc] at hw
  rw [← hc] at r2
  refine ZT hw r2 (fun b hb=>?_) (fun _=>.noMap (by rw [hc];exact hnm)) fun _ hd=>by rw [hc,ZL hnm] at hd;cases hd
  rcases r4 with r4 | r4
  ·rw [r4] at hb;exact h3 b hb
  ·rw [r4] at hb
   simp only [Xf] at hb
   subst hb
   exact ⟨.inr hsim.frm.size,fun i j=>Yi h1 i j⟩
theorem WJ {P:Program} {w:World} {lim:Lm} {x:Bool} {e:TypeId} {v:Value} {s:Nat} (h:Rep w lim (.slice Xb s []) v):ZV P w lim x e [] v Xe:=by
 have key:∀ (y:AV),Rep w lim y v→y = .slice Xb s []→ZV P w lim x e [] v Xe:=by
  intro y hy hye
  cases hy with
  | sliceN => exact .inl ⟨[], World.ownsRow_nil _ 0 e _, rfl, by simp, by simp, by simp, by simp⟩
  | @sliceE f s' a cap hf =>
   injection hye with h1 h2 h3
   have:=hf h1
   subst this
   exact .inr (.inl ⟨rfl,rfl,a,rfl⟩)
  | @sliceC f s' xs b o cap us hs hc hf hle hlim hus hcell hr =>
   injection hye with h1 h2 h3
   subst h3
   have:=hf h1
   simp at this
   subst this
   exact .inr (.inl ⟨rfl,rfl,_,rfl⟩)
  | val _ => cases hye
  | agg _ _ _ => cases hye
  | nest => cases hye
  | oref0 => cases hye
  | oref => cases hye
  | osl0 => cases hye
  | osl => cases hye
  | omap => cases hye
  | fnc => cases hye
  | omap0 => cases hye
  | fncN => cases hye
 exact key _ h rfl
theorem Zcj {P:Program} {o:Oper} {σ:Nat→AV} (ex:Bool) {cl:Call} {T e:TypeId} {i:TypeInfo} {z:Value} {x y:Operand} {ys:List (List AV)} {f:Bool} {s:Nat} (ho:o.op = .call cl) (hcl:cl.callee = .builtin .append)
  (hargs:cl.args.toList = [x,y]) (hts:cl.argTypes.toList = [T,T]) (hT:P.underlying T=Xa (.slice e)) (hi:P.info? e=Xa i) (hz:i.zero=Xa z) (hzs:z.cells.size=i.size)
  (hx:Zn P σ x = .slice Xb s []) (hy:Zn P σ y = .slice f i.size ys) (hroom:(([] : List (List AV)).length+ys.length)*(i.bytes+1)≤ZZ) (hnm:Zj P e=Xc) :
  Jg P o σ (.own ex e ys) [] []:=by
 have hargs':cl.args = #[x,y]:=by apply XG.1;rw [hargs]
 have hts':cl.argTypes = #[T,T]:=by apply XG.1;rw [hts]
 intro c hc σ' tm w lim X hid hag hsim next Q hn
 have hsz:P.cellsOf e=i.size:=ZH hi
 have hgx:Zn P σ' x=Zn P σ x:=Zw fun t ht=>hid t (by simp [Zo (o:=o) (x:=x) (by rw [ho];simp [Op.operands,Call.operands,hargs',hcl]) ht])
 have hgy:Zn P σ' y=Zn P σ y:=Zw fun t ht=>hid t (by simp [Zo (o:=o) (x:=y) (by rw [ho];simp [Op.operands,Call.operands,hargs',hcl]) ht])
 have hxv:ZV P w lim ex e [] (Act.eval ⟨tm,[]⟩ x) Xe:=WJ (s:=s) (JF hc hsim hx hgx)
 have hyv:Rep w lim (.slice f (P.cellsOf e) ys) (Act.eval ⟨tm,[]⟩ y):=by rw [hsz];exact JF hc hsim hy hgy
 obtain ⟨v',w',lim',ob',r1,r2,r3,r4⟩:=Y9 (ty:=o.type) hT hi hz hzs hxv (.of hyv) hroom hnm
 have hw:=hsim.world r3 fun b hb=>by cases hb
 refine Zi (v:=v') (w':=w') ?_ (hn _ w' ?_)
 ·simp only [execOp,ho,resolve,hcl,hargs',hts',Wn,Xg,Xz,Sem.run_bind,Sem.run_pure,Result.andThen_ok,invoke,builtin,r1]
 ·rw [← hc,XX] at r2
  refine ZT hw r2 (fun b hb=>?_) (fun _=>.noMap (by rw [hc];exact hnm)) fun _ hd=>by rw [hc,ZL hnm] at hd;cases hd
  rcases r4 with r4 | r4
  ·rw [r4] at hb;cases hb
  ·rw [r4] at hb
   simp only [Xf] at hb
   subst hb
   exact ⟨.inr hsim.frm.size,fun i j=>Yi hsim i j⟩
theorem Zel {T':Odr} {P:Program} {o:Oper} {σ:Nat→AV} {T:TypeId} {parts:Array (Nat×Operand)} {f t:Nat} {fs:Array Field} {fd:Field} {i:TypeInfo} {z:Value} {zc:List AV} {e:TypeId} {xs:List (List AV)} {us:List (Nat×AV)} (ho:o.op = .build T parts) (hp:parts.toList = [(f,.tmp t)])
  (hT:P.underlying T=Xa (.struct fs)) (hi:P.info? T=Xa i) (hz:i.zero=Xa z) (hzc:Zae z.cells.toList=Xa zc) (hall:(fs.toList.all fun f=>(P.info? f.type).isSome)=Xb) (hfd:fs[f]? = Xa fd)
  (h1:P.cellsOf fd.type=1) (hoff:fd.offset < zc.length) (ht:σ t = .own Xb e xs) (hus:Yc T' σ t us) :
  Yz T' P o σ (.aggo (zc.set fd.offset (.own Xb e xs))) ((t,KX P Xb e xs)::us) []:=by
 have hp':parts = #[(f,.tmp t)]:=by apply XG.1;rw [hp]
 intro c hc σ' tm w lim X hid hag hTx hsim next Q hn
 have ht':σ' t = .own Xb e xs:=by rw [hag t (by simp),ht]
 obtain ⟨X1,k1,k2,k3,k4⟩:=hsim.freeAll (us:=us) ht' (.inr (hus.all hTx))
 rw [hc] at k1 k2
 have hcell:(tm.getD t undef).cells = #[tm.getD t undef]:=(ZV.cells1 k2).1
 have hzr:=J6 (w:=w) (lim:=lim) hzc
 have hzl:fd.offset < z.cells.toList.length:=by rw [← hzr.1];exact hoff
 have hzip:=Zgg fd.offset [tm.getD t undef] z.cells.toList.toArray (by have:=hzl;simp at this ⊢; omega)
 simp only [List.length_cons,Wi,XF] at hzip
 have hrun:(execOp (Act.eval ⟨tm,[]⟩) o).run P w = .ok (.value (.agg (z.cells.toList.set fd.offset (tm.getD t undef)).toArray)) w:=by
  have hpl:(fun (i:Nat)=>(fs.map fun (f:Field)=>(f.offset,P.cellsOf f.type))[i]?)=fun (i:Nat)=>(fs[i]?).map fun (f:Field)=>(f.offset,P.cellsOf f.type):=by
   funext i;simp
  have hb:(Instr.build T (parts.map fun p=>(p.1,Act.eval ⟨tm,[]⟩ p.2))).run P w = .ok (.agg (z.cells.toList.set fd.offset (tm.getD t undef)).toArray) w:=by
   simp only [Instr.build,Sem.run_bind,zeroValue,typeInfo,run_program,hi,hz,Result.andThen_ok,Sem.run_pure,run_underlying hT]
   have hpq:=Zfh (P:=P) w fs hall
   rw [hpq]
   simp only [Result.andThen_ok]
   rw [hpl,hp']
   have hev:Act.eval ⟨tm,[]⟩ (.tmp t)=tm.getD t undef:=rfl
   have hsz:¬ (z.cells.size < fd.offset+1):=by
    have:z.cells.toList.length=z.cells.size:=by simp
    omega
   simp only [Wn,Xg,Xz,hev,Instr.fill,hfd,Xo,h1,hcell]
   rw [if_neg (by simp;omega)]
   have h2:z.cells.toList.take fd.offset++[tm.getD t undef]++z.cells.toList.drop (fd.offset+1)=z.cells.toList.set fd.offset (tm.getD t undef):=by
    rw [Tw,if_pos hzl];simp
   rw [Ui] at hzip
   rw [hzip,h2]
   rfl
  simp only [execOp,ho,Sem.run_bind,hb,Result.andThen_ok,Sem.run_pure]
 refine Zi hrun (hn _ w ?_)
 rw [← hc] at k1 k2
 have hlenz:(z.cells.toList.set fd.offset (tm.getD t undef)).length=(zc.set fd.offset (.own Xb e xs)).length:=by rw [Ux,Ux,hzr.1]
 cases hdst:o.dst with
 | none => rw [hc] at k1; exact ⟨lim, X1, by rw [← hc] at k1 ⊢; exact k1⟩
 | some d =>
  intro hd hm
  rw [← hc]
  refine ⟨lim,_,k1.putRow (hns:=fun k e1 xs1 b m1 m2 m3=>by
   split at m3
   ·rename_i hk
    subst hk
    have hx1:(e1,xs1)=(e,xs):=by
     simp only [ZY] at m1
     rw [X8 (by simpa using hoff)] at m1
     simpa using m1.symm
    cases hx1
    rw [k4 _ (XV hsim.ntN (XR _ _))]
    exact hsim.nst t 0 _ _ b (by rw [ht'];rfl) m2 m3
   ·cases m3) (fun k=>if k=fd.offset+1 then X t 0 else Xe) (ZU.refl w lim (fun _=>False)) (fun _ hs=>hs.elim) hd (tm':=tm.setIfInBounds d (.agg (z.cells.toList.set fd.offset (tm.getD t undef)).toArray)) (by simp) (fun i hi=>ZD tm d i _ hi)
   (.inl (by rw [hc];exact (ZA hm).1)) (fun i q hi hr=>(k1.noRefs (by rw [hc];exact (ZA hm).none) i q hi hr).elim) ?_ (fun k b hk=>?_) (fun k k' b hk hk'=>?_)⟩
  ·rw [Jp tm d _ (by rw [hsim.size];exact hd)]
   refine ⟨_,rfl,hlenz,⟨fun x hx=>?_,fun u hu=>?_⟩,fun j x u hx hu=>?_⟩
   ·rcases Wo hx with hx | hx
    ·exact .inl (hzr.2.1 x hx)
    ·exact .inr (.inl ⟨_,_,_,hx⟩)
   ·rcases Wo hu with hu | rfl
    ·obtain ⟨j,hj⟩:=XK.1 hu
     have hlt:j < zc.length:=by rw [hzr.1];exact (Xi.1 hj).1
     exact (hzr.2.2 j _ u (Xp hlt) hj).oneCell (hzr.2.1 _ (Wl hlt))
    ·exact (ZV.cells1 k2).2
   ·rw [Zl]
    by_cases hj:j=fd.offset
    ·subst hj
     rw [X8 hoff] at hx
     rw [X8 hzl] at hu
     simp only [Xf] at hx hu
     subst hx
     subst hu
     rw [if_pos rfl]
     exact k2
    ·rw [Wg (fun h=>hj h.symm)] at hx hu
     rw [if_neg (by omega)]
     have hrj:=hzr.2.2 j x u hx hu
     have hxc:=hzr.2.1 x (Xh hx)
     cases x<;>simp [AV.isCell] at hxc<;>exact hrj
  ·split at hk
   ·obtain ⟨m1,m2⟩:=k3 b hk
    exact ⟨(hsim.ours t 0 b hk).1,m1,fun i j _=>m2 i j⟩
   ·cases hk
  ·split at hk<;>split at hk'
   ·omega
   ·cases hk'
   ·cases hk
   ·cases hk
theorem ZcT {P:Program} {o:Oper} {σ:Nat→AV} {T:TypeId} {a:Operand} {t d off:Nat} {cs vc:List AV} (ho:o.op = .store T a (.tmp t)) (ha:Zn P σ a = .ptr d off) (hd:σ d = .box cs) (ht:σ t = .aggo vc)
  (hn:vc.length=P.cellsOf T) (h0:P.cellsOf T≠0) (hfit:off+P.cellsOf T≤cs.length) (hnr:Zca ((cs.drop off).take (P.cellsOf T))) :
  Jg P o σ .dead [(t,.dead),(d,.box (cs.take off++vc++cs.drop (off+P.cellsOf T)))] [d]:=by
 intro c hc σ' tm w lim X hid hag hsim next Q hnx
 have hga:Zn P σ' a=Zn P σ a:=Zw fun t ht=>hid t (by simp [Zo (o:=o) (x:=a) (by rw [ho];simp [Op.operands]) ht])
 have hd':σ' d = .box cs:=by rw [hag d (by simp),hd]
 have ht':σ' t = .aggo vc:=by rw [hag t (by simp),ht]
 have hdt:d≠t:=fun h=>by rw [h,ht'] at hd';cases hd'
 have hva:=JF hc hsim ha hga
 rw [← hc] at hva
 obtain ⟨b,h1,h2,h3⟩:=K6 hsim hd' hva
 obtain ⟨i,hi⟩:=Zr h0
 have hrt:=hsim.rel t
 rw [ht'] at hrt
 obtain ⟨us,u1,u2,u3,u4⟩:=hrt
 have htn:t < c.nt:=JL hsim (by rw [ht'];exact fun h=>by cases h) (by rw [ht'];rfl)
 have k1:Sim c (upd σ' t .dead) tm w lim (Ke X t Jz):=hsim.weaken (k:=0) htn (fun cs h=>by rw [ht'] at h;cases h) (hsim.noRefs fun k=>by rw [ht'];rfl) rfl (fun i q hq=>by rcases hq with hq | ⟨_,hq⟩ <;> cases hq) trivial
 have hd1:upd σ' t .dead d = .box cs:=by rw [Zb _ _ hdt,hd']
 obtain ⟨b0,arr,ty,g1,g2,g3,g4,g5,g6,g7⟩:=h3
 have hb0:b0=b:=by rw [g1] at h1;exact Xr h1
 subst hb0
 have hset:=k1.setCells (off:=off) (vc:=vc) (us:=us) (b:=b0) (fun j=>if j < vc.length then X t (j+1) else Xe) hd1 (by rw [Zc X Jz hdt];exact g1) (by rw [hn];exact hfit) u2.symm u3.1 (fun j x u hx hu=>?_) g3
  (fun k q1 q2 i hi hr=>ZdC k1 hd1 (by rw [← hn] at hnr;exact hnr) q1 q2 hr) (fun j b' hb'=>?_) (hnw:=fun j e1 xs1 b' m1 m2 m3=>?_)
 ·refine JA (w':=w.setRow b0 (arr.toList.take off++us++arr.toList.drop (off+us.length)).toArray) ?_ (hnx undef _ ?_)
  ·have hev:Act.eval ⟨tm,[]⟩ (.tmp t) = .agg us.toArray:=u1
   have hst:=JY (P:=P) (T:=T) (w:=w) (b:=b0) (off:=off) (v:=.agg us.toArray) (us:=us) hi rfl (by rw [u2,hn]) g3 (by rw [u2,hn,g4];exact hfit) (fun u hu=>by
    exact u3.2 u hu)
   simp only [execOp,ho,h2,hev,Sem.run_bind,hst,Result.andThen_ok,Sem.run_pure]
  ·rw [hn] at hset
   exact Zq hset rfl (k:=0) trivial
 ·have hlt:j < vc.length:=(Xi.1 hx).1
  show J8 c.P w lim (if j < vc.length then X t (j+1) else Xe) x u
  rw [if_pos hlt]
  exact u4 j x u hx hu
 ·have hb2:(if j < vc.length then X t (j+1) else Xe)=Xa b':=hb'
  split at hb2
  ·rename_i hlt
   obtain ⟨o1,o2⟩:=hsim.ours t (j+1) b' hb2
   refine ⟨hlt,o2,o1,fun i k hik=>?_,fun i' hi'=>?_⟩
   ·by_cases hit:i=t
    ·subst hit;rw [Zl] at hik;cases hik
    ·rw [Zc X Jz hit] at hik
     exact hit (hsim.dist i k t (j+1) b' hik hb2).1
   ·have hi2:(if i' < vc.length then X t (i'+1) else Xe)=Xa b':=hi'
    split at hi2
    ·have:=(hsim.dist t (j+1) t (i'+1) b' hb2 hi2).2
     omega
    ·cases hi2
  ·cases hb2
 ·have h5:(if j < vc.length then X t (j+1) else Xe)=Xa b':=m3
  split at h5
  ·have:=hsim.ntN
   rw [Zc X Jz (show ngN+b'≠t by omega)]
   exact hsim.nst t (j+1) e1 xs1 b' (by rw [ht'];simp only [ZY,m1]) m2 h5
  ·cases h5
def ZI (l:List AV):Nat→AV:=fun i=>(l[i]?).getD .dead
def ZlI (X:Nat→Nat→Option Nat):Prop:=∀ d k d' k' b,X d k=Xa b→X d' k'=Xa b→d=d'∧k=k'
def Callable (P : Program) (f : FuncId) : Prop := ∃ fn, P.funcs[f]? = Xa fn ∧ (fn.name == "runtime.NumGoroutine") = Xc ∧ fn.body.isNone = Xc
def ZaK (n:Nat) (cargs:List Value) (v:Value) (i:Nat):Value:=if i=n then v else cargs.getD i undef
def V8 (P:Program) (aZ:List AV):Prop:=∀ i k e xs,ZY (ZI aZ i) k=Xa (e,xs)→Ze P e=Xc
def ZrX (P:Program) (w:World) (lim:Lm) (X:Nat→Nat→Option Nat) (res:AV) (n:Nat):Prop:=
 ∀ k e xs b,ZY res k=Xa (e,xs)→Ze P e=Xb→X n k=Xa b→VZ P w lim e xs b (X (ngN+b))
def Yo (P:Program) (f:FuncId) (args:List AV) (res:AV) (outs:List AV):Prop:=
 Callable P f∧args.length < ngN∧∀ (w:World) (lim:Lm) (X:Nat→Nat→Option Nat) (cargs:List Value),cargs.length+args.countP AV.isG≤args.length→
  (∀ i,ZQ P w lim X (ZI args) i (ZI args i) (cargs.getD i undef))→ZlI X→(∀ i k b,X i k=Xa b→b < w.heap.size)→(∀ i,args.length≤i→∀ k,X i k=Xe)→
  Calls P f cargs.toArray w fun e w'=>∃ v lim' X',e = .returned v∧VY w lim w' lim' (fun b=>∃ i k,X i k=Xa b) (args.any AV.isSto)∧outs.length=args.length∧
   (∀ i,ZQ P w' lim' X' (ZI (outs++[res])) i (ZI (outs++[res]) i) (ZaK args.length cargs v i))∧ZlI X'∧
   (∀ i k b,X' i k=Xa b→b < w'.heap.size∧((∃ i k,X i k=Xa b)∨w.heap.size≤b))∧(∀ i,(ZI (outs++[res]) i).isG=Xb→(ZI args i).isG=Xb∧X' i 0=X i 0)∧V8 P outs∧ZrX P w' lim' X' res args.length
def Zal (x:AV):Bool:=match x with | .val _=>Xb | _=>Xc
def Zet (x:AV):Bool:=
 match x with
 | .val _ => Xb
 | .dead => Xb
 | .agg cs => cs.all Zal
 | .box cs => cs.all Zal
 | .gbox cs => cs.all Zal
 | .tuple vs => vs.all fun v => match v with | .agg cs => cs.all Zal | v => Zal v
 | _ => Xc
def Zbi (lim:Lm) (b0 N:Nat):Lm:=⟨fun b=>if b=b0 then N else lim b,lim.t⟩
theorem Zcz {w w':World} {lim lim':Lm} {x:AV} {v:Value} (hx:Zal x=Xb) (h:Rep w lim x v):Rep w' lim' x v:=by
 cases x<;>simp [Zal] at hx
 cases h with
 | val h => exact .val h
theorem Zkw {w w':World} {lim lim':Lm} {cs:List AV} {v:Value} (hx:cs.all Zal=Xb) (h:Rep w lim (.agg cs) v):Rep w' lim' (.agg cs) v:=by
 rw [XE] at hx
 cases h with
 | agg hl hc hr => exact .agg hl hc fun i c v hi hv => Zcz (hx c (Xh hi)) (hr i c v hi hv)
theorem Zog {P:Program} {w w':World} {lim lim':Lm} {ob:Option Nat} {x:AV} {v:Value} (hx:Zal x=Xb) (h:J8 P w lim ob x v):J8 P w' lim' ob x v:=by
 cases x<;>simp [Zal] at hx
 exact Zcz rfl (show Rep w lim _ v from h)
theorem Zft {P:Program} {w:World} {lim lim':Lm} {X:Nat→Option Nat} {cs:List AV} {v:Value} (hx:cs.all Zal=Xb) (hl:∀ b,X 0=Xa b→lim' b=lim b) (h:ZG P w lim X cs v):ZG P w lim' X cs v:=by
 rw [XE] at hx
 obtain ⟨b,arr,t,h1,h2,h3,h4,h5,h6,h7⟩:=h
 exact ⟨b,arr,t,h1,h2,h3,h4,(hl b h1).trans h5,h6,fun i c u hc hu=>Zog (hx c (Xh hc)) (h7 i c u hc hu)⟩
theorem Zmq {P:Program} {w:World} {lim lim':Lm} {X:Nat→Nat→Option Nat} {σ:Nat→AV} {d:Nat} {x:AV} {v:Value} (hx:Zet x=Xb) (hl:∀ b,X d 0=Xa b→lim' b=lim b) (h:ZQ P w lim X σ d x v):ZQ P w lim' X σ d x v:=by
 cases x with
 | val u => exact Zcz rfl (show Rep w lim _ v from h)
 | dead => trivial
 | agg cs => exact Zkw hx (show Rep w lim _ v from h)
 | box cs => exact Zft hx hl h
 | gbox cs =>
  obtain ⟨v',h⟩:=h
  exact ⟨v',Zft hx hl h⟩
 | tuple vs =>
  simp only [Zet,XE] at hx
  obtain ⟨us,h1,h2,h3⟩:=h
  refine ⟨us,h1,h2,fun i c u hc hu=>?_⟩
  have hcx:=hx c (Xh hc)
  have h4:=h3 i c u hc hu
  cases c with
  | agg cs => exact Zkw hcx (show Rep w lim _ u from h4)
  | val y => exact Zcz rfl (show Rep w lim _ u from h4)
  | _ => cases hcx
 | _ => cases hx
theorem ZhQ {P:Program} {w:World} {lim:Lm} {e:TypeId} {xs:List (List AV)} {v:Value} {b0:Nat} (h:ZV P w lim Xb e xs v (Xa b0)) (hnm:Zj P e=Xc) (hext:Ext w lim w (Zbi lim b0 (xs.length*P.cellsOf e))) :
  ZV P w (Zbi lim b0 (xs.length*P.cellsOf e)) Xc e xs v (Xa b0):=by
 rcases h.noMap hnm with ⟨ws,g1,g2,g3,g4,g5,g6⟩ | ⟨_,h,_⟩
 ·refine .inl ⟨ws,g1,g2,fun b hb=>?_,g4,g5,fun j z u hz hu=>(g6 j z u hz hu).mono hext⟩
  have hbb:b0=b:=Xr hb
  subst hbb
  rw [if_neg (by simp),g1.1]
  exact if_pos rfl
 ·cases h
theorem ZkR {x:AV} (h:Zet x=Xb) (k:Nat):ZY x k=Xe:=by
 have key:∀ (cs:List AV) (k:Nat),(∀ c∈cs,∀ e xs,c≠.own Xb e xs)→(match cs[k]? with | some (.own Xb e xs)=>Xa (e,xs) | _=>Xe)=Xe:=fun cs k hc=>by
  split
  ·rename_i e xs hx
   exact (hc _ (Xh hx) e xs rfl).elim
  ·rfl
 have flat:∀ cs:List AV,cs.all Zal=Xb→∀ c∈cs,∀ e xs,c≠.own Xb e xs:=fun cs h c hc e xs he=>by
  rw [XE] at h
  have:=h c hc
  rw [he] at this
  cases this
 cases x with
 | box cs => cases k with | zero => rfl | succ k => exact key cs k (flat cs h)
 | gbox cs => cases k with | zero => rfl | succ k => exact key cs k (flat cs h)
 | tuple vs =>
  cases k with
  | zero => rfl
  | succ k =>
   refine key vs k fun c hc e xs he=>?_
   simp only [Zet,XE] at h
   have:=h c hc
   rw [he] at this
   cases this
 | val _ => cases k <;> rfl
 | dead => cases k <;> rfl
 | agg _ => cases k <;> rfl
 | _ => cases h
theorem Yo.borrow {P:Program} {f:FuncId} {args:List AV} {res:AV} {outs:List AV} (h:Yo P f args res outs) (hf:∀ i,Zet (ZI (outs++[res]) i)=Xb) {w:World} {lim:Lm} {X:Nat→Nat→Option Nat} {cargs:List Value} {b0 N:Nat}
  (hb0:b0 < w.heap.size) (hl0:lim b0=0) (hX0:∀ i k,X i k≠Xa b0) (hlen:cargs.length+args.countP AV.isG≤args.length)
  (hrel:∀ i,ZQ P w (Zbi lim b0 N) X (ZI args) i (ZI args i) (cargs.getD i undef)) (hdist:ZlI X) (hsize:∀ i k b,X i k=Xa b→b < w.heap.size) (hfar:∀ i,args.length≤i→∀ k,X i k=Xe) :
  Calls P f cargs.toArray w fun e w'=>∃ v lim' X',e = .returned v∧VY w lim w' lim' (fun b=>∃ i k,X i k=Xa b) (args.any AV.isSto)∧outs.length=args.length∧
   (∀ i,ZQ P w' lim' X' (ZI (outs++[res])) i (ZI (outs++[res]) i) (ZaK args.length cargs v i))∧ZlI X'∧
   (∀ i k b,X' i k=Xa b→b < w'.heap.size∧((∃ i k,X i k=Xa b)∨w.heap.size≤b))∧(∀ i,(ZI (outs++[res]) i).isG=Xb→(ZI args i).isG=Xb∧X' i 0=X i 0)∧V8 P outs∧ZrX P w' lim' X' res args.length:=by
 refine (h.2.2 w (Zbi lim b0 N) X cargs hlen hrel hdist hsize hfar).mono ?_
 rintro e w' ⟨v,lim',X',he,hst,hol,hr,hd,hin,hgh,hnl,hnr⟩
 have hne:∀ i k b,X' i k=Xa b→b≠b0:=by
  intro i k b hb hbb
  subst hbb
  rcases (hin i k b hb).2 with ⟨i',k',h1⟩ | h1
  ·exact hX0 i' k' h1
  ·omega
 have hk0:=hst.blk b0 hb0 fun ⟨i,k,hb⟩=>hX0 i k hb
 refine ⟨v,⟨fun b=>if b=b0 then 0 else lim' b,lim'.t⟩,X',he,⟨hst.os,hst.tape,hst.output,hst.size,hst.frz,fun b hb hn=>?_,⟨fun b hb=>?_,hst.ext.t⟩,hst.t⟩,hol,fun i=>?_,hd,hin,hgh,hnl,fun k e1 xs1 b m1=>?_⟩
 ·obtain ⟨h1,h2⟩:=hst.blk b hb hn
  refine ⟨h1,?_⟩
  by_cases hbb:b=b0
  ·subst hbb
   show (if b=b then 0 else lim' b)=lim b
   rw [if_pos rfl,hl0]
  ·show (if b=b0 then 0 else lim' b)=lim b
   rw [if_neg hbb,h2]
   exact if_neg hbb
 ·by_cases hbb:b=b0
  ·subst hbb
   refine ⟨by rw [hl0];exact Wh _,fun o u ho _=>by rw [hl0] at ho;omega⟩
  ·obtain ⟨h1,h2⟩:=hst.ext b hb
   have h3:Zbi lim b0 N b=lim b:=if_neg hbb
   rw [h3] at h1 h2
   exact ⟨by show lim b≤if b=b0 then 0 else lim' b;rw [if_neg hbb];exact h1,h2⟩
 ·exact Zmq (hf i) (fun b hb=>if_neg (hne i 0 b hb)) (hr i)
 ·have hres:ZI (outs++[res]) outs.length=res:=by simp [ZI]
  have hfl:=hf outs.length
  rw [hres] at hfl
  rw [ZkR hfl] at m1
  cases m1
def mkB (gh:Bool) (cs:List AV):AV:=match gh with | true=>.gbox cs | false=>.box cs
inductive AK where
 | imm (x : AV)
 | own (t : Nat) (x : Bool) (e : TypeId) (xs : List (List AV))
 | box (d : Nat) (fr to : Bool) (cs : List AV)
 | clo (g : FuncId) (ds gs : List Nat)
 | ref (t d q j : Nat)
 | pad
 | sto (d : Nat) (rows : List (List AV))
def AK.av:AK→AV
 | .imm x => x
 | .own _ x e xs => .own x e xs
 | .box _ _ to cs => mkB to cs
 | .clo g _ gs => .clo g gs
 | .ref _ _ q j => .mref j q
 | .pad => .dead
 | .sto _ rows => .store rows
def AK.slot:AK→Option Nat
 | .imm _ => Xe
 | .own t _ _ _ => Xa t
 | .box d _ _ _ => Xa d
 | .clo _ _ _ => Xe
 | .ref t _ _ _ => Xa t
 | .pad => Xe
 | .sto d _ => Xa d
def Zo9 (x:AV):Prop:=(∃ v,x = .val v)∨(∃ cs,x = .agg cs)∨(∃ f s xs,x = .slice f s xs)∨JC x=Xb
inductive KW where
 | op (x : Operand)
 | cap (d : Nat)
 | obj (j : Nat)
 | ghost
 | pad
def Zt8 (P:Program) (σ:Nat→AV) (x:Operand) (y:AV):Prop:=∃ d q e xs,(Zn P σ x = .mref d q∧∀ t e' ys,x = .tmp t→σ t≠.own Xb e' ys)∧Zp (σ d) q=Xa (e,xs)∧(P.cellsOf e≠0∧Zj P e=Xc)∧y = .slice Xc (P.cellsOf e) xs
def AK.ok (P:Program) (σ:Nat→AV):KW→AK→Prop
 | .op x, .imm y => (Zn P σ x = y ∧ Zo9 y) ∨ Zt8 P σ x y
 | .op x, .own t b e xs => x = .tmp t ∧ σ t = .own b e xs
 | .op x, .box d fr to cs => Zn P σ x = .ptr d 0 ∧ σ d = .box cs ∧ fr = Xc ∧ to = Xc
 | .op x, .clo g ds _ => Zn P σ x = .clo g ds
 | .op x, .ref t d q _ => x = .tmp t ∧ σ t = .mref d q
 | .cap d', .box d fr to cs => d' = d ∧ σ d = mkB fr cs ∧ to = Xc
 | .ghost, .box d fr to cs => σ d = mkB fr cs ∧ to = Xb
 | .pad, .pad => True
 | .ghost, .sto d rows => σ d = .store rows
 | .obj j, .imm y => y = .oref j 0
 | _, _ => False
def reB (fr to:Bool) (o:AV):AV:=
 match to,o with
 | true, .gbox cs => mkB fr cs
 | false, .box cs => mkB fr cs
 | _, _ => .dead
theorem Zta (fr to:Bool) (cs:List AV):reB fr to (mkB to cs)=mkB fr cs:=by cases to<;>rfl
theorem Zh7 (a b:Bool) (cs:List AV) (q:Nat):Zp (mkB a cs) q=Zp (mkB b cs) q:=by cases a<;>cases b<;>cases q<;>rfl
theorem Zgf (gh:Bool) (cs:List AV):(mkB gh cs).isG=gh:=by cases gh<;>rfl
theorem Zq6 (gh:Bool) (cs:List AV):(mkB gh cs).isB=Xb:=by cases gh<;>rfl
def Zbo:List AK→List AV→List (Nat×AV)
 | .own t _ _ _ :: aZ, _ :: os => (t, .gone) :: Zbo aZ os
 | .box d fr to _ :: aZ, o :: os => (d, reB fr to o) :: Zbo aZ os
 | .imm _ :: aZ, _ :: os => Zbo aZ os
 | .clo _ _ _ :: aZ, _ :: os => Zbo aZ os
 | .ref t _ _ _ :: aZ, _ :: os => (t, .dead) :: Zbo aZ os
 | .pad :: aZ, _ :: os => Zbo aZ os
 | .sto d _ :: aZ, o :: os => (d, o) :: Zbo aZ os
 | _, _ => []
theorem ZR:∀ (aZ:List AK) (os:List AV) (σ:Nat→AV) (d:Nat),(∀ a∈aZ,a.slot≠Xa d)→Jm σ (Zbo aZ os) d=σ d
 | [], os, σ, d, _ => by cases os <;> rfl
 | a :: aZ, [], σ, d, _ => by cases a <;> rfl
 | .imm _ :: aZ, o :: os, σ, d, h => ZR aZ os σ d fun a ha => h a (by simp [ha])
 | .clo _ _ _ :: aZ, o :: os, σ, d, h => ZR aZ os σ d fun a ha => h a (by simp [ha])
 | .pad :: aZ, o :: os, σ, d, h => ZR aZ os σ d fun a ha => h a (by simp [ha])
 | .ref t x e xs :: aZ, o :: os, σ, d, h => by
  show Jm (upd σ t .dead) (Zbo aZ os) d=σ d
  rw [ZR aZ os _ d fun a ha=>h a (by simp [ha])]
  exact Zb σ _ fun hd=>h (.ref t x e xs) (by simp) (by rw [hd];rfl)
 | .own t x e xs :: aZ, o :: os, σ, d, h => by
  show Jm (upd σ t .gone) (Zbo aZ os) d=σ d
  rw [ZR aZ os _ d fun a ha=>h a (by simp [ha])]
  exact Zb σ _ fun hd=>h (.own t x e xs) (by simp) (by rw [hd];rfl)
 | .box t fr to cs :: aZ, o :: os, σ, d, h => by
  show Jm (upd σ t (reB fr to o)) (Zbo aZ os) d=σ d
  rw [ZR aZ os _ d fun a ha=>h a (by simp [ha])]
  exact Zb σ _ fun hd=>h (.box t fr to cs) (by simp) (by rw [hd];rfl)
 | .sto t rows :: aZ, o :: os, σ, d, h => by
  show Jm (upd σ t o) (Zbo aZ os) d=σ d
  rw [ZR aZ os _ d fun a ha=>h a (by simp [ha])]
  exact Zb σ _ fun hd=>h (.sto t rows) (by simp) (by rw [hd];rfl)
theorem JZ:∀ (aZ:List AK) (os:List AV) (σ:Nat→AV) (i:Nat) (a:AK) (o:AV) (d:Nat),aZ.length=os.length→(aZ.filterMap AK.slot).Nodup→aZ[i]? = Xa a→os[i]? = Xa o→a.slot=Xa d→
  Jm σ (Zbo aZ os) d=match a with | .own _ _ _ _=>.gone | .box _ fr to _=>reB fr to o | .ref _ _ _ _=>.dead | _=>o
 | [], os, σ, i, a, o, d, _, _, ha, _, _ => by simp at ha
 | b :: aZ, [], σ, i, a, o, d, hl, _, _, _, _ => by simp at hl
 | b :: aZ, p :: os, σ, 0, a, o, d, hl, hnd, ha, ho, hd => by
  simp only [XB,Xf] at ha ho
  subst ha
  subst ho
  have hno:∀ a∈aZ,a.slot≠Xa d:=by
   intro a ha hs
   rw [Up,hd] at hnd
   exact (XS.1 hnd).1 (UU.2 ⟨a,ha,hs⟩)
  cases b with
  | imm x => simp [AK.slot] at hd
  | clo g ds gs => simp [AK.slot] at hd
  | pad => simp [AK.slot] at hd
  | own t x e xs =>
   simp only [AK.slot,Xf] at hd
   subst hd
   show Jm (upd σ t .gone) (Zbo aZ os) t = .gone
   rw [ZR aZ os _ t hno,Zs]
  | ref t x e xs =>
   simp only [AK.slot,Xf] at hd
   subst hd
   show Jm (upd σ t .dead) (Zbo aZ os) t = .dead
   rw [ZR aZ os _ t hno,Zs]
  | box t fr to cs =>
   simp only [AK.slot,Xf] at hd
   subst hd
   show Jm (upd σ t (reB fr to p)) (Zbo aZ os) t=reB fr to p
   rw [ZR aZ os _ t hno,Zs]
  | sto t rows =>
   simp only [AK.slot,Xf] at hd
   subst hd
   show Jm (upd σ t p) (Zbo aZ os) t=p
   rw [ZR aZ os _ t hno,Zs]
 | b :: aZ, p :: os, σ, i + 1, a, o, d, hl, hnd, ha, ho, hd => by
  have hl':aZ.length=os.length:=by simpa using hl
  have ha':aZ[i]? = Xa a:=by simpa using ha
  have ho':os[i]? = Xa o:=by simpa using ho
  cases b with
  | imm x => exact JZ aZ os σ i a o d hl' (by simpa [Up, AK.slot] using hnd) ha' ho' hd
  | clo g ds gs => exact JZ aZ os σ i a o d hl' (by simpa [Up, AK.slot] using hnd) ha' ho' hd
  | pad => exact JZ aZ os σ i a o d hl' (by simpa [Up, AK.slot] using hnd) ha' ho' hd
  | ref t x e xs =>
   rw [Up] at hnd
   exact JZ aZ os (upd σ t .dead) i a o d hl' (XS.1 hnd).2 ha' ho' hd
  | own t x e xs =>
   rw [Up] at hnd
   exact JZ aZ os (upd σ t .gone) i a o d hl' (XS.1 hnd).2 ha' ho' hd
  | box t fr to cs =>
   rw [Up] at hnd
   exact JZ aZ os (upd σ t (reB fr to p)) i a o d hl' (XS.1 hnd).2 ha' ho' hd
  | sto t rows =>
   rw [Up] at hnd
   exact JZ aZ os (upd σ t p) i a o d hl' (XS.1 hnd).2 ha' ho' hd
theorem Zj9:∀ (aZ:List AK),(aZ.filterMap AK.slot).Nodup→∀ (i j:Nat) (a b:AK) (d:Nat),aZ[i]? = Xa a→aZ[j]? = Xa b→a.slot=Xa d→b.slot=Xa d→i=j
 | [], _, i, j, a, b, d, ha, _, _, _ => by simp at ha
 | x :: aZ, hnd, i, j, a, b, d, ha, hb, hda, hdb => by
  have htail:(aZ.filterMap AK.slot).Nodup:=by
   rw [Up] at hnd
   split at hnd
   ·exact hnd
   ·exact (XS.1 hnd).2
  have hhead:∀ d,x.slot=Xa d→∀ a∈aZ,a.slot≠Xa d:=by
   intro d hx a ha hs
   rw [Up,hx] at hnd
   exact (XS.1 hnd).1 (UU.2 ⟨a,ha,hs⟩)
  cases i with
  | zero =>
   cases j with
   | zero => rfl
   | succ j =>
    simp only [XB,Xf] at ha
    subst ha
    exact (hhead d hda b (Xh (by simpa using hb)) hdb).elim
  | succ i =>
   cases j with
   | zero =>
    simp only [XB,Xf] at hb
    subst hb
    exact (hhead d hdb a (Xh (by simpa using ha)) hda).elim
   | succ j => rw [Zj9 aZ htail i j a b d (by simpa using ha) (by simpa using hb) hda hdb]
def Zbn (X:Nat→Nat→Option Nat) (aZ:List AK):Nat→Nat→Option Nat:=fun i k=>
 match aZ[i]? with
 | some (.own t _ _ _) => if k = 0 then X t 0 else Xe
 | some (.box d _ _ _) => X d k
 | some (.sto d _) => X d k
 | _ => Xe
def Zdc:List AK→Nat→Nat→Option (Nat×AK)
 | [], _, _ => Xe
 | a :: aZ, d, n => if a.slot = Xa d then Xa (n, a) else Zdc aZ d (n + 1)
theorem ZeR:∀ (aZ:List AK) (d n m:Nat) (a:AK),Zdc aZ d n=Xa (m,a)→∃ i,m=n+i∧aZ[i]? = Xa a∧a.slot=Xa d
 | [], _, _, _, _, h => by cases h
 | b :: aZ, d, n, m, a, h => by
  unfold Zdc at h
  split at h
  ·rename_i hs
   simp only [Xf,Xn] at h
   obtain ⟨rfl,rfl⟩:=h
   exact ⟨0,rfl,rfl,hs⟩
  ·obtain ⟨i,h1,h2,h3⟩:=ZeR aZ d (n+1) m a h
   exact ⟨i+1,by omega,by simpa using h2,h3⟩
theorem Zfm:∀ (aZ:List AK) (d n:Nat),Zdc aZ d n=Xe→∀ a∈aZ,a.slot≠Xa d
 | [], _, _, _, a, ha => by simp at ha
 | b :: aZ, d, n, h, a, ha => by
  unfold Zdc at h
  split at h
  ·cases h
  ·rename_i hs
   rcases Xl.1 ha with rfl | ha
   ·exact hs
   ·exact Zfm aZ d (n+1) h a ha
def XaA (X X':Nat→Nat→Option Nat) (aZ:List AK):Nat→Nat→Option Nat:=fun d k=>
 match Zdc aZ d 0 with
 | some (i, .box _ _ _ _) => X' i k
 | some (i, .sto _ _) => X' i k
 | some _ => Xe
 | none => X d k
def Zh6 (x:AV):Prop:=Zo9 x∨(∃ b e xs,x = .own b e xs)∨(∃ vs,x = .tuple vs)∨(∃ cs,x = .aggo cs)∨∃ cs,x = .box cs
theorem Zk7 {P:Program} {w:World} {lim:Lm} {X X':Nat→Nat→Option Nat} {σ σ':Nat→AV} {d d':Nat} {x:AV} {v:Value} (hx:Zh6 x) (h:ZQ P w lim X σ d x v) (hX:X' d'=X d):ZQ P w lim X' σ' d' x v:=by
 rcases hx with (⟨u,rfl⟩ | ⟨cs,rfl⟩ | ⟨f,s,xs,rfl⟩ | hc) | ⟨b,e,xs,rfl⟩ | ⟨vs,rfl⟩ | ⟨cs,rfl⟩ | ⟨cs,rfl⟩
 ·exact h
 ·exact h
 ·exact h
 ·rcases YH hc with ⟨_,_,rfl⟩ | ⟨_,_,_,rfl⟩ | ⟨_,rfl⟩ | ⟨_,_,rfl⟩ <;> exact h
 ·show ZV P w lim b e xs v (X' d' 0);rw [hX];exact h
 ·obtain ⟨us,h1,h2,h3⟩:=h
  refine ⟨us,h1,h2,?_⟩
  rw [hX]
  exact h3
 ·obtain ⟨us,h1,h2,h4,h3⟩:=h
  refine ⟨us,h1,h2,h4,?_⟩
  rw [hX]
  exact h3
 ·show ZG P w lim (X' d') cs v;rw [hX];exact h
theorem ZnI {P:Program} {w:World} {lim:Lm} {X X':Nat→Nat→Option Nat} {σ σ':Nat→AV} {d d':Nat} {x:AV} {v:Value} (hx:Zo9 x) (h:ZQ P w lim X σ d x v):ZQ P w lim X' σ' d' x v:=by
 rcases hx with ⟨u,rfl⟩ | ⟨cs,rfl⟩ | ⟨f,s,xs,rfl⟩ | hc
 ·exact h
 ·exact h
 ·exact h
 ·rcases YH hc with ⟨_,_,rfl⟩ | ⟨_,_,_,rfl⟩ | ⟨_,rfl⟩ | ⟨_,_,rfl⟩ <;> exact h
def AK.okV (P:Program) (bor:Nat→Nat→Prop) (w:World) (lim:Lm) (X:Nat→Nat→Option Nat) (σ:Nat→AV) (tm:Array Value) (v:Value):AK→Prop
 | .imm y => (ZQ P w lim X σ 0 y v ∧ Zo9 y) ∨ ∃ d q e xs, Zp (σ d) q = Xa (e, xs) ∧ (P.cellsOf e ≠ 0 ∧ Zj P e = Xc) ∧ y = .slice Xc (P.cellsOf e) xs ∧ ZbX P w (X d q) e xs.length v ∧ bor d q
 | .own t x e xs => σ t = .own x e xs ∧ v = tm.getD t undef
 | .box d fr to cs => σ d = mkB fr cs ∧ ∃ b, X d 0 = Xa b ∧ ZG P w lim (X d) cs (.pointer (Xa ⟨b, 0, Xe⟩)) ∧ (fr = Xc → tm.getD d undef = .pointer (Xa ⟨b, 0, Xe⟩)) ∧ (to = Xc → v = .pointer (Xa ⟨b, 0, Xe⟩))
 | .clo g ds _ => ZQ P w lim X σ 0 (.clo g ds) v
 | .ref t d q _ => σ t = .mref d q ∧ v = tm.getD t undef
 | .pad => True
 | .sto d rows => σ d = .store rows
def ZnY (aks:List AK):Prop:=∀ (i:Nat) (g:FuncId) (ds gs:List Nat),aks[i]? = Xa (.clo g ds gs)→gs.length=ds.length∧
 ∀ (k d j:Nat),ds[k]? = Xa d→gs[k]? = Xa j→∃ fr cs,aks[j]? = Xa (.box d fr Xb cs)
def Znn (aks:List AK):Prop:=∀ (i t d q j:Nat),aks[i]? = Xa (.ref t d q j)→∃ fr cs,aks[j]? = Xa (.box d fr Xb cs)
theorem KB {P:Program} {w:World} {lim:Lm} {X:Nat→Option Nat} {cs:List AV} {v:Value} (h:ZG P w lim X cs v):∃ b,X 0=Xa b∧v = .pointer (Xa ⟨b,0,Xe⟩):=by
 obtain ⟨b,_,_,h1,h2,_⟩:=h
 exact ⟨b,h1,h2⟩
theorem ZkF {c:Ctx} {σ:Nat→AV} {tm:Array Value} {w:World} {lim:Lm} {X:Nat→Nat→Option Nat} (h:Sim c σ tm w lim X) {d:Nat} {fr:Bool} {cs:List AV} (hd:σ d=mkB fr cs) :
  ∃ b,X d 0=Xa b∧ZG c.P w lim (X d) cs (.pointer (Xa ⟨b,0,Xe⟩))∧(fr=Xc→tm.getD d undef = .pointer (Xa ⟨b,0,Xe⟩)):=by
 have hr:=h.rel d
 rw [hd] at hr
 cases fr with
 | false =>
  have hp:=(show ZG c.P w lim (X d) cs (tm.getD d undef) from hr)
  obtain ⟨b,h1,h2⟩:=KB hp
  exact ⟨b,h1,by rw [← h2];exact hp,fun _=>h2⟩
 | true =>
  obtain ⟨v,hp⟩:=hr
  obtain ⟨b,h1,h2⟩:=KB hp
  exact ⟨b,h1,by rw [← h2];exact hp,fun h=>by cases h⟩
theorem ZmB {T:Odr} (Bd Bq:Nat) (bp:List Nat) {P:Program} {o:Oper} {σ:Nat→AV} {cl:Call} {f:FuncId} {cps:List KW} {tail:List KW} {aks:List AK} {res:AV} {outs:List AV} (ho:o.op = .call cl)
  (hcl:(cl.callee = .value (.func f)∧cps = [])∨∃ t,cl.callee = .value (.tmp t)∧((∃ ds,σ t = .clo f ds∧cps=ds.map KW.cap)∨∃ js,σ t = .fnc f js∧js≠[]∧cps=js.map KW.obj))
  (hlen:(cl.args.toList.map KW.op++cps++tail).length=aks.length) (hargs:∀ (i:Nat) (x:KW) (a:AK),(cl.args.toList.map KW.op++cps++tail)[i]? = Xa x→aks[i]? = Xa a→a.ok P σ x)
  (htail:∀ x∈tail,x = .pad∨x = .ghost) (hcnt:cl.args.toList.length+cps.length+(aks.map AK.av).countP AV.isG≤aks.length) (hclo:ZnY aks) (hrf:Znn aks) (hnd:(aks.filterMap AK.slot).Nodup)
  (hol:outs.length=aks.length) (hout:∀ (i d:Nat) (fr to:Bool) (cs:List AV) (y:AV),aks[i]? = Xa (.box d fr to cs)→outs[i]? = Xa y→∃ cs',y=mkB to cs') (hso:∀ (i d:Nat) (rows:List (List AV)) (y:AV),aks[i]? = Xa (.sto d rows)→outs[i]? = Xa y→y.isSto=Xb) (hres:Zh6 res) (hrm:∀ e xs,res = .own Xb e xs→Mv P e xs)
  (hex:∀ (i t:Nat) (e:TypeId) (xs:List (List AV)),aks[i]? = Xa (.own t Xb e xs)→Yc T σ t [])
  (hbx:∀ (i d:Nat) (fr to:Bool) (cs:List AV),aks[i]? = Xa (.box d fr to cs)→Zca cs∨Yc T σ d []∨∀ σ',T.rel σ σ'→∀ i k,Jh (σ' i) d k→∃ a∈aks,a.slot=Xa i)
  (hB:∀ (i:Nat) (x:Operand),cl.args.toList[i]? = Xa x→(∃ z,aks[i]? = Xa (.imm z))→∀ d q,Zn P σ x = .mref d q→(∀ t e' ys,x = .tmp t→σ t≠.own Xb e' ys)→d=Bd∧q=Bq∧Bd∈bp∧(∀ a∈aks,a.slot≠Xa Bd)∧∀ i,Zet (ZI (outs++[res]) i)=Xb)
  (hcall:Yo P f (aks.map AK.av) res outs):Yz T P o σ res (Zbo aks outs) (aks.filterMap AK.slot++bp):=by
 intro c hc σ' tm w lim X hid hag hT hsim next Q hn
 subst hc
 obtain ⟨⟨fn,hfn,hname,hbody⟩,hcs,hc2⟩:=hcall
 have hslot:∀ a∈aks,∀ d,a.slot=Xa d→σ' d=σ d:=fun a ha d hd=>hag d (Xt.2 (.inl (Xt.2 (.inl (UU.2 ⟨a,ha,hd⟩)))))
 have hops:∀ x∈cl.args.toList,x∈o.op.operands:=by
  intro x hx
  rw [ho]
  rcases hcl with ⟨h,_⟩ | ⟨t,h,_⟩ <;> simp only [Op.operands,Call.operands,h]<;>simp [Array.mem_toList_iff.1 hx]
 have hg:∀ x∈cl.args.toList,Zn c.P σ' x=Zn c.P σ x:=fun x hx=>Zw fun t ht=>hid t (Zo (hops x hx) ht)
 -- the blocks of what the function value has captured
 obtain ⟨bs,hbl,hcps,hbs,hbo,hcv⟩:∃ bs:List Nat,bs.length=cps.length∧(∀ x∈cps,(∃ d,x = .cap d)∨∃ j,x = .obj j)∧(∀ (i d b:Nat),cps[i]? = Xa (.cap d)→bs[i]? = Xa b→X d 0=Xa b)∧
   (∀ (i j b:Nat),cps[i]? = Xa (.obj j)→bs[i]? = Xa b→0 < j∧∃ cap ty,lim.t j=Xa (b,cap,ty))∧
   (resolve (Act.eval ⟨tm,[]⟩) cl o.type).run c.P w = .ok { target:=.fn (.func f) (bs.map fun b=>Value.pointer (Xa ⟨b,0,Xe⟩)).toArray,args:=cl.args.map (Act.eval ⟨tm,[]⟩) } w:=by
  rcases hcl with ⟨h,rfl⟩ | ⟨t,h,⟨ds,ht,rfl⟩ | ⟨js,ht,hne,rfl⟩⟩
  ·refine ⟨[],rfl,by simp,by simp,by simp,?_⟩
   have hev:Act.eval ⟨tm,[]⟩ (.func f) = .func (.func f) #[] #[]:=rfl
   simp [resolve,h,hev,Deferred.ofValue]
  ·have hr:=hsim.rel t
   have htu:σ' t=σ t:=(hid t (Zo (x:=.tmp t) (by rw [ho];simp [Op.operands,Call.operands,h]) rfl)).eq fun cs e=>by rw [ht] at e;cases e
   rw [htu,ht] at hr
   obtain ⟨bs,h1,h2,h3⟩:=hr
   refine ⟨bs,by rw [h2,Xq],fun x hx=>?_,fun i d b hd hb=>(h3 i d b ?_ hb).1,fun i j b hd _=>?_,?_⟩
   ·obtain ⟨d,_,rfl⟩:=Xj.1 hx;exact .inl ⟨d,rfl⟩
   ·rw [Xk] at hd
    obtain ⟨d',h4,h5⟩:=XU.1 hd
    cases h5;exact h4
   ·rw [Xk] at hd
    obtain ⟨d',h4,h5⟩:=XU.1 hd
    cases h5
   have hev:Act.eval ⟨tm,[]⟩ (.tmp t)=tm.getD t undef:=rfl
   simp [resolve,h,hev,h1,Deferred.ofValue]
  ·have hr:=hsim.rel t
   have htu:σ' t=σ t:=(hid t (Zo (x:=.tmp t) (by rw [ho];simp [Op.operands,Call.operands,h]) rfl)).eq fun cs e=>by rw [ht] at e;cases e
   rw [htu,ht] at hr
   have hr':Rep w lim (.fnc f js) (tm.getD t undef):=hr
   have hev:Act.eval ⟨tm,[]⟩ (.tmp t)=tm.getD t undef:=rfl
   generalize tm.getD t undef=v0 at hr' hev
   cases hr' with
   | fncN => exact (hne rfl).elim
   | @fnc _ _ bs hl h3 =>
    refine ⟨bs,by rw [hl,Xq],fun x hx=>?_,fun i d b hd hb=>?_,fun i j b hd hb=>h3 i j b ?_ hb,?_⟩
    ·obtain ⟨d,_,rfl⟩:=Xj.1 hx;exact .inr ⟨d,rfl⟩
    ·rw [Xk] at hd
     obtain ⟨d',h4,h5⟩:=XU.1 hd
     cases h5
    ·rw [Xk] at hd
     obtain ⟨d',h4,h5⟩:=XU.1 hd
     cases h5;exact h4
    simp [resolve,h,hev,Deferred.ofValue]
 obtain ⟨cargs,hcargs⟩:∃ cargs:List Value,cargs=cl.args.toList.map (Act.eval ⟨tm,[]⟩)++bs.map (fun b=>Value.pointer (Xa ⟨b,0,Xe⟩)):=⟨_,rfl⟩
 have hcl2:cargs.length=cl.args.toList.length+cps.length:=by rw [hcargs];simp [hbl]
 have hok:∀ (i:Nat) (a:AK),aks[i]? = Xa a→a.okV c.P (fun d q=>d=Bd∧q=Bq∧(∀ a∈aks,a.slot≠Xa Bd)∧∀ i,Zet (ZI (outs++[res]) i)=Xb) w lim X σ' tm (cargs.getD i undef):=by
  intro i a ha
  have hlt:i < (cl.args.toList.map KW.op++cps++tail).length:=by rw [hlen];exact (Xi.1 ha).1
  have hsrc:=Xp hlt
  have h:=hargs i _ a hsrc ha
  generalize hx:(cl.args.toList.map KW.op++cps++tail)[i]=x at h hsrc
  have hsl:∀ d,a.slot=Xa d→σ' d=σ d:=fun d hd=>hslot a (Xh ha) d hd
  have hbox:∀ d fr to cs,a = .box d fr to cs→σ d=mkB fr cs→σ' d=mkB fr cs∧∃ b,X d 0=Xa b∧ZG c.P w lim (X d) cs (.pointer (Xa ⟨b,0,Xe⟩))∧(fr=Xc→tm.getD d undef = .pointer (Xa ⟨b,0,Xe⟩)):=by
   intro d fr to cs he h1
   have h3:σ' d=mkB fr cs:=(hsl d (by rw [he];rfl)).trans h1
   exact ⟨h3,ZkF hsim h3⟩
  cases x with
  | op y =>
   -- an operand
   have hi:i < cl.args.toList.length:=by
    rcases Xx i cl.args.toList.length with h0 | h0
    ·exact h0
    ·rw [Xu,Xy (by simpa using h0)] at hsrc
     rcases Xt.1 (Xh hsrc) with hm | hm
     ·rcases hcps _ hm with ⟨_,e⟩ | ⟨_,e⟩ <;> cases e
     ·rcases htail _ hm with e | e<;>cases e
   have hy:cl.args.toList[i]? = Xa y:=by
    rw [Xu,Xv (by simpa using hi),Xk] at hsrc
    rw [Xp hi] at hsrc ⊢
    simpa using hsrc
   have hv:cargs.getD i undef=Act.eval ⟨tm,[]⟩ y:=by
    rw [hcargs,UY,Xv (by simpa using hi),Xk,hy];rfl
   have hgy:=hg y (Xh hy)
   rw [hv]
   cases a with
   | imm z =>
    have hrl:=(KY hsim y 0).2
    rw [hgy] at hrl
    rcases h with h | ⟨d,q,e,xs,m1,m2,m3,m4⟩
    ·rw [h.1] at hrl
     exact .inl ⟨hrl,h.2⟩
    ·rw [m1.1] at hrl
     obtain ⟨b1,b2,b3,b4,b5⟩:=hB i y hy ⟨z,ha⟩ d q m1.1 m1.2
     subst b1
     have hsd:σ' d=σ d:=hag d (Xt.2 (.inl (Xt.2 (.inr b3))))
     obtain ⟨e',xs',n1,n2⟩:=hrl
     rw [hsd,m2] at n1
     simp only [Xf,Xn] at n1
     obtain ⟨rfl,rfl⟩:=n1
     exact .inr ⟨d,q,e,xs,by rw [hsd];exact m2,m3,m4,n2,rfl,b2,b4,b5⟩
   | own t x e xs =>
    obtain ⟨rfl,ht⟩:=h
    exact ⟨(hsl t rfl).trans ht,rfl⟩
   | box d fr to cs =>
    obtain ⟨h1,h2,rfl,rfl⟩:=h
    obtain ⟨k1,b,k2,k3,k4⟩:=hbox d Xc Xc cs rfl h2
    refine ⟨k1,b,k2,k3,k4,fun _=>?_⟩
    have h4:=(KY hsim y 0).2
    rw [hgy,h1] at h4
    obtain ⟨b',_,m1,_,m3⟩:=h4
    rw [k2] at m1
    cases m1
    exact m3
   | clo g ds gs =>
    have:=(KY hsim y 0).2
    rw [hgy,show Zn c.P σ y = .clo g ds from h] at this
    exact this
   | ref t d q j =>
    obtain ⟨rfl,ht⟩:=h
    exact ⟨(hsl t rfl).trans ht,rfl⟩
   | pad => cases h
   | sto _ _ => cases h
  | obj j =>
   have hi:cl.args.toList.length≤i∧i-cl.args.toList.length < cps.length:=by
    rcases Xx i cl.args.toList.length with h0 | h0
    ·rw [Xu,Xv (by simpa using h0)] at hsrc
     obtain ⟨_,_,e⟩:=Xj.1 (Xh hsrc);cases e
    ·refine ⟨h0,?_⟩
     rcases Xx (i-cl.args.toList.length) cps.length with h1 | h1
     ·exact h1
     ·rw [Xy (by rw [XA,Xq];omega)] at hsrc
      rcases htail _ (Xh hsrc) with e | e<;>cases e
   have hd:cps[i-cl.args.toList.length]? = Xa (.obj j):=by
    rw [Xu,Xy (by simpa using hi.1),Xv (by simpa using hi.2),Xq] at hsrc
    exact hsrc
   cases a with
   | imm y =>
    have h':y = .oref j 0:=h
    subst h'
    have hb:=Xp (l:=bs) (i:=i-cl.args.toList.length) (by rw [hbl];exact hi.2)
    obtain ⟨hj,cap,ty,ht⟩:=hbo _ _ _ hd hb
    rw [hcargs,UY,Xy (by simpa using hi.1),Xq,Xk,hb]
    exact .inl ⟨.oref hj ht,.inr (.inr (.inr rfl))⟩
   | box _ _ _ _ => cases h
   | own _ _ _ => cases h
   | clo _ _ _ => cases h
   | ref _ _ _ _ => cases h
   | pad => cases h
   | sto _ _ => cases h
  | cap d' =>
   have hi:cl.args.toList.length≤i∧i-cl.args.toList.length < cps.length:=by
    rcases Xx i cl.args.toList.length with h0 | h0
    ·rw [Xu,Xv (by simpa using h0)] at hsrc
     obtain ⟨_,_,e⟩:=Xj.1 (Xh hsrc);cases e
    ·refine ⟨h0,?_⟩
     rcases Xx (i-cl.args.toList.length) cps.length with h1 | h1
     ·exact h1
     ·rw [Xy (by rw [XA,Xq];omega)] at hsrc
      rcases htail _ (Xh hsrc) with e | e<;>cases e
   have hd:cps[i-cl.args.toList.length]? = Xa (.cap d'):=by
    rw [Xu,Xy (by simpa using hi.1),Xv (by simpa using hi.2),Xq] at hsrc
    exact hsrc
   cases a with
   | box d fr to cs =>
    obtain ⟨rfl,h1,rfl⟩:=h
    obtain ⟨k1,b,k2,k3,k4⟩:=hbox d' fr Xc cs rfl h1
    refine ⟨k1,b,k2,k3,k4,fun _=>?_⟩
    have hb:=Xp (l:=bs) (i:=i-cl.args.toList.length) (by rw [hbl];exact hi.2)
    have hbb:=hbs _ _ _ hd hb
    rw [k2] at hbb
    rw [hcargs,UY,Xy (by simpa using hi.1),Xq,Xk,hb,← Xr hbb]
    rfl
   | imm _ => cases h
   | own _ _ _ => cases h
   | clo _ _ _ => cases h
   | ref _ _ _ _ => cases h
   | pad => cases h
   | sto _ _ => cases h
  | ghost =>
   cases a with
   | sto d rows => exact (hsl d rfl).trans h
   | box d fr to cs =>
    obtain ⟨h1,rfl⟩:=h
    obtain ⟨k1,b,k2,k3,k4⟩:=hbox d fr Xb cs rfl h1
    exact ⟨k1,b,k2,k3,k4,fun h=>by cases h⟩
   | imm _ => cases h
   | own _ _ _ => cases h
   | clo _ _ _ => cases h
   | ref _ _ _ _ => cases h
   | pad => cases h
  | pad =>
   cases a with
   | pad => trivial
   | imm _ => cases h
   | own _ _ _ => cases h
   | clo _ _ _ => cases h
   | ref _ _ _ _ => cases h
   | box _ _ _ _ => cases h
   | sto _ _ => cases h
 have hget:∀ (i:Nat) (a:AK),aks[i]? = Xa a→ZI (aks.map AK.av) i=a.av:=fun i a ha=>by simp [ZI,ha]
 -- the arguments as the callee sees them
 have hrel0:∀ i,(∀ z,aks[i]?≠Xa (.imm z))→ZQ c.P w lim (Zbn X aks) (ZI (aks.map AK.av)) i (ZI (aks.map AK.av) i) (cargs.getD i undef):=by
  intro i hni
  cases ha:aks[i]? with
  | none =>
   have:ZI (aks.map AK.av) i = .dead:=by simp [ZI,ha]
   rw [this]
   trivial
  | some a =>
   rw [hget i a ha]
   have h:=hok i a ha
   cases a with
   | imm y => exact (hni y ha).elim
   | own t x e xs =>
    obtain ⟨ht,hv⟩:=h
    have:=hsim.rel t
    rw [ht] at this
    have hX:Zbn X aks i 0=X t 0:=by simp [Zbn,ha]
    show ZV c.P w lim x e xs _ (Zbn X aks i 0)
    rw [hX,hv]
    exact this
   | box d fr to cs =>
    obtain ⟨h1,b,h2,h3,h4,h5⟩:=h
    have hX:Zbn X aks i=X d:=by funext k;simp [Zbn,ha]
    cases to with
    | false =>
     show ZG c.P w lim (Zbn X aks i) cs _
     rw [hX,h5 rfl]
     exact h3
    | true =>
     exact ⟨.pointer (Xa ⟨b,0,Xe⟩),by rw [hX];exact h3⟩
   | clo g es gs =>
    obtain ⟨l1,l2⟩:=hclo i g es gs ha
    obtain ⟨bs',m1,m2,m3⟩:=h
    refine ⟨bs',m1,by rw [m2,l1],fun k j b hj hb=>?_⟩
    have hlt:k < es.length:=by rw [← m2];exact (Xi.1 hb).1
    obtain ⟨fr,cs,hbx⟩:=l2 k _ j (Xp hlt) hj
    have hX:Zbn X aks j 0=X es[k] 0:=by simp [Zbn,hbx]
    exact ⟨by rw [hX];exact (m3 k _ b (Xp hlt) hb).1,by rw [hget j _ hbx];exact Zq6 Xb cs⟩
   | ref t d q j =>
    obtain ⟨ht,hv⟩:=h
    have hr:=hsim.rel t
    rw [ht] at hr
    obtain ⟨e,xs,n1,n2⟩:=hr
    obtain ⟨fr,cs,hb⟩:=hrf i t d q j ha
    have hX:Zbn X aks j q=X d q:=by simp [Zbn,hb]
    rw [(hok j _ hb).1,Zh7 fr Xb] at n1
    exact ⟨e,xs,by rw [hget j _ hb];exact n1,by rw [hX,hv];exact n2⟩
   | pad => trivial
   | sto d rows =>
    have hr:=hsim.rel d
    rw [show σ' d = .store rows from h] at hr
    have hX:Zbn X aks i=X d:=by funext k;simp [Zbn,ha]
    show YG c.P w lim (Zbn X aks i) rows
    rw [hX]
    exact hr
 have hXof:∀ i k b,Zbn X aks i k=Xa b→∃ a d,aks[i]? = Xa a∧a.slot=Xa d∧X d k=Xa b:=by
  intro i k b h
  unfold Zbn at h
  split at h
  ·rename_i t x e xs ha
   split at h
   ·rename_i hk;subst hk;exact ⟨_,t,ha,rfl,h⟩
   ·cases h
  ·rename_i d fr to cs ha;exact ⟨_,d,ha,rfl,h⟩
  ·rename_i d rows ha;exact ⟨_,d,ha,rfl,h⟩
  ·cases h
 have hdist:ZlI (Zbn X aks):=by
  intro i k i' k' b h h'
  obtain ⟨a,d,h1,h2,h3⟩:=hXof i k b h
  obtain ⟨a',d',h1',h2',h3'⟩:=hXof i' k' b h'
  obtain ⟨e1,e2⟩:=hsim.dist d k d' k' b h3 h3'
  subst e1
  exact ⟨Zj9 aks hnd i i' a a' d h1 h1' h2 h2',e2⟩
 have hsize:∀ i k b,Zbn X aks i k=Xa b→b < w.heap.size:=by
  intro i k b h
  obtain ⟨a,d,h1,h2,h3⟩:=hXof i k b h
  exact (hsim.ours d k b h3).1
 have hxfar:∀ i,(aks.map AK.av).length≤i→∀ k,Zbn X aks i k=Xe:=fun i hi k=>by
  rw [Xq] at hi
  have:aks[i]? = Xe:=Uc hi
  simp only [Zbn,this]
 have hlc:cargs.length+(aks.map AK.av).countP AV.isG≤(aks.map AK.av).length:=by rw [hcl2,Xq];exact hcnt
 have hcalls:Calls c.P f cargs.toArray w fun e w'=>∃ v lim' X',e = .returned v∧VY w lim w' lim' (fun b=>∃ i k,Zbn X aks i k=Xa b) ((aks.map AK.av).any AV.isSto)∧outs.length=(aks.map AK.av).length∧
   (∀ i,ZQ c.P w' lim' X' (ZI (outs++[res])) i (ZI (outs++[res]) i) (ZaK (aks.map AK.av).length cargs v i))∧ZlI X'∧
   (∀ i k b,X' i k=Xa b→b < w'.heap.size∧((∃ i k,Zbn X aks i k=Xa b)∨w.heap.size≤b))∧(∀ i,(ZI (outs++[res]) i).isG=Xb→(ZI (aks.map AK.av) i).isG=Xb∧X' i 0=Zbn X aks i 0)∧V8 c.P outs∧ZrX c.P w' lim' X' res (aks.map AK.av).length:=by
  by_cases hbor:∃ e xs b0,Zp (σ' Bd) Bq=Xa (e,xs)∧X Bd Bq=Xa b0∧(∀ a∈aks,a.slot≠Xa Bd)∧(c.P.cellsOf e≠0∧Zj c.P e=Xc)∧∀ i,Zet (ZI (outs++[res]) i)=Xb
  ·obtain ⟨e,xs,b0,p1,p2,p3,p4,p5⟩:=hbor
   obtain ⟨v0,ho⟩:=Yd hsim p1
   rw [p2] at ho
   obtain ⟨arr,cap,r1,r2,r3,r4,r5,r6,r7,r8,r9⟩:=Va ho (.inl p4.2)
   have hX0:∀ i k,Zbn X aks i k≠Xa b0:=by
    intro i k hb
    obtain ⟨a,d,q1,q2,q3⟩:=hXof i k b0 hb
    obtain ⟨e1,_⟩:=hsim.dist d k Bd Bq b0 q3 p2
    subst e1
    exact p3 a (Xh q1) q2
   have hext:Ext w lim w (Zbi lim b0 (xs.length*c.P.cellsOf e)):=by
    refine ⟨fun b _=>?_,fun _ _ h=>h⟩
    refine ⟨?_,fun _ _ _ hu=>hu⟩
    unfold Zbi
    dsimp only
    split
    ·rename_i hbb;rw [hbb,r3];exact Wh _
    ·exact XD _
   refine Yo.borrow ⟨⟨fn,hfn,hname,hbody⟩,hcs,hc2⟩ p5 (N:=xs.length*c.P.cellsOf e) (hsim.ours Bd Bq b0 p2).1 r3 hX0 hlc (fun i=>?_) hdist hsize hxfar
   by_cases him:∃ z,aks[i]? = Xa (.imm z)
   ·obtain ⟨z,ha⟩:=him
    rw [hget i _ ha]
    rcases hok i _ ha with h | ⟨d,q,e',xs',n1,n2,n3,n4,n5,n6,_⟩
    ·obtain ⟨h1,h2⟩:=h
     rcases h2 with ⟨u,rfl⟩ | ⟨cs,rfl⟩ | ⟨f,s,xs,rfl⟩ | hc
     ·exact Rep.mono hext (show Rep w lim _ _ from h1)
     ·exact Rep.mono hext (show Rep w lim _ _ from h1)
     ·exact Rep.mono hext (show Rep w lim _ _ from h1)
     ·rcases YH hc with ⟨_,_,rfl⟩ | ⟨_,_,_,rfl⟩ | ⟨_,rfl⟩ | ⟨_,_,rfl⟩ <;> exact Rep.mono hext (show Rep w lim _ _ from h1)
    ·subst n5
     subst n6
     subst n3
     rw [p1] at n1
     simp only [Xf,Xn] at n1
     obtain ⟨rfl,rfl⟩:=n1
     rw [← K3 n2.2] at r2 r6
     rcases n4 with ⟨k1,_⟩ | ⟨b,arr',cap',k1,k2,k3,k4⟩ | ⟨k0,_⟩ | ⟨k0,_⟩
     ·rw [p2] at k1;cases k1
     ·rw [p2] at k1
      have hbb:b0=b:=Xr k1
      subst hbb
      rw [r2] at k2
      simp only [Xf,Obj.cells.injEq,and_true] at k2
      subst k2
      have hcap:cap'=cap:=Tm (by have:=p4.1;rw [K3 n2.2];omega) (k3.symm.trans r6)
      subst hcap
      rw [k4,← r1]
      exact ZV.rep (ZhQ ho p4.2 hext) Xc rfl
     ·rw [n2.2] at k0;cases k0
     ·rw [n2.2] at k0;cases k0
   ·exact (hrel0 i fun z hz=>him ⟨z,hz⟩).mono hext (fun k b hb=>⟨rfl,if_neg fun (hbb:b=b0)=>hX0 i k (by rw [← hbb];exact hb)⟩) (fun d' k b _ _=>.of rfl) fun _ _=>rfl
  ·refine hc2 w lim (Zbn X aks) cargs hlc (fun i=>?_) hdist hsize hxfar
   by_cases him:∃ z,aks[i]? = Xa (.imm z)
   ·obtain ⟨z,ha⟩:=him
    rw [hget i _ ha]
    rcases hok i _ ha with h | ⟨d,q,e',xs',n1,n2,n3,n4,n5,n6,n7,n8⟩
    ·exact ZnI h.2 h.1
    ·subst n5
     subst n6
     subst n3
     rcases n4 with ⟨_,k2,k3⟩ | ⟨b,arr,cap,k2,_⟩ | ⟨k0,_⟩ | ⟨k0,_⟩
     ·have:xs' = []:=XY k2
      subst this
      rcases k3 with k3 | ⟨a,k3⟩
      ·show Rep w lim _ _
       rw [k3];exact .sliceN
      ·show Rep w lim _ _
       rw [k3];exact .sliceE fun h=>by cases h
     ·exact (hbor ⟨e',xs',b,n1,k2,n7,n2,n8⟩).elim
     ·rw [n2.2] at k0;cases k0
     ·rw [n2.2] at k0;cases k0
   ·exact hrel0 i fun z hz=>him ⟨z,hz⟩
 have hrun:(execOp (Act.eval ⟨tm,[]⟩) o).run c.P w = .ok (.enter f cargs.toArray) w:=by
  have harr:cl.args.map (Act.eval ⟨tm,[]⟩)++(bs.map fun b=>Value.pointer (Xa ⟨b,0,Xe⟩)).toArray=cargs.toArray:=by
   apply XG.1;rw [hcargs];simp
  simp only [execOp,ho,Sem.run_bind,hcv,Result.andThen_ok,invoke,callFunc,run_program,hfn,hname,hbody]
  rw [harr]
  rfl
 unfold Oper.wp
 rw [hrun,Oper.upon_enter]
 refine hcalls.mono ?_
 rintro e w' ⟨v,lim',X',rfl,hstep,hl',hrel',hdist',hours',hgh',hnl',hnr'⟩
 rw [Xq] at hnr'
 have hal:aks.length < ngN:=by have:=hcs;rwa [Xq] at this
 refine hn v w' ?_
 -- what the slots are behind the call
 have hpass:∀ d,(∃ i a,Zdc aks d 0=Xa (i,a)∧aks[i]? = Xa a∧a.slot=Xa d)∨(Zdc aks d 0=Xe∧∀ a∈aks,a.slot≠Xa d):=by
  intro d
  cases hf:Zdc aks d 0 with
  | none => exact .inr ⟨rfl, Zfm aks d 0 hf⟩
  | some p =>
   obtain ⟨m,a⟩:=p
   obtain ⟨i,h1,h2,h3⟩:=ZeR aks d 0 m a hf
   rw [XF] at h1
   subst h1
   exact .inl ⟨m,a,rfl,h2,h3⟩
 have houtAt:∀ i a,aks[i]? = Xa a→∃ y,outs[i]? = Xa y:=fun i a ha=>⟨_,Xp (by rw [hol];exact (Xi.1 ha).1)⟩
 have hret:∀ i,i < aks.length→ZaK (aks.map AK.av).length cargs v i=cargs.getD i undef:=by
  intro i hi
  unfold ZaK
  rw [if_neg (by rw [Xq];omega)]
 have hboxOut:∀ i d fr to cs,aks[i]? = Xa (.box d fr to cs)→∃ cs' b,outs[i]? = Xa (mkB to cs')∧ZG c.P w' lim' (X' i) cs' (.pointer (Xa ⟨b,0,Xe⟩))∧(fr=Xc→tm.getD d undef = .pointer (Xa ⟨b,0,Xe⟩))∧X' i 0=Xa b∧X d 0=Xa b∧
   Jm σ' (Zbo aks outs) d=mkB fr cs':=by
  intro i d fr to cs ha
  obtain ⟨y,hy⟩:=houtAt i _ ha
  obtain ⟨cs',rfl⟩:=hout i d fr to cs y ha hy
  have h1:=hrel' i
  have hlt:i < outs.length:=(Xi.1 hy).1
  have ho1:ZI (outs++[res]) i=mkB to cs':=by
   simp only [ZI]
   rw [Xv hlt,hy]
   rfl
  obtain ⟨k1,b,k2,k3,k4,k5⟩:=hok i _ ha
  rw [ho1,hret i (by rw [← hol];exact hlt)] at h1
  have hup:=JZ aks outs σ' i (.box d fr to cs) (mkB to cs') d hol.symm hnd ha hy rfl
  simp only [Zta] at hup
  have hpl:ZG c.P w' lim' (X' i) cs' (.pointer (Xa ⟨b,0,Xe⟩))∧X' i 0=Xa b:=by
   cases to with
   | false =>
    rw [k5 rfl] at h1
    have hp:ZG c.P w' lim' (X' i) cs' (.pointer (Xa ⟨b,0,Xe⟩)):=h1
    obtain ⟨b',m1,m2⟩:=KB hp
    simp only [Value.pointer.injEq,Xf,Addr.mk.injEq,and_true] at m2
    exact ⟨hp,by rw [m1,m2]⟩
   | true =>
    obtain ⟨v',hp⟩:=(show ∃ v',ZG c.P w' lim' (X' i) cs' v' from h1)
    have hgx:=(hgh' i (by rw [ho1];rfl)).2
    have hX:Zbn X aks i 0=X d 0:=by simp [Zbn,ha]
    obtain ⟨b',m1,m2⟩:=KB hp
    rw [hgx,hX,k2] at m1
    cases m1
    exact ⟨by rw [← m2];exact hp,by rw [hgx,hX,k2]⟩
  exact ⟨cs',b,hy,hpl.1,k4,hpl.2,k2,hup⟩
 have hstoOut:∀ (i d:Nat) (rows:List (List AV)),aks[i]? = Xa (AK.sto d rows)→∃ rows':List (List AV),outs[i]? = Xa (.store rows')∧Jm σ' (Zbo aks outs) d = .store rows'∧YG c.P w' lim' (X' i) rows':=by
  intro i d rows ha
  obtain ⟨y,hy⟩:=houtAt i _ ha
  have h1:=hrel' i
  have hys:=hso i d rows y ha hy
  cases y with
  | store rows' =>
   have hlt:i < outs.length:=(Xi.1 hy).1
   have ho1:ZI (outs++[res]) i = .store rows':=by
    simp only [ZI]
    rw [Xv hlt,hy]
    rfl
   rw [ho1] at h1
   exact ⟨rows',hy,JZ aks outs σ' i (.sto d rows) (.store rows') d hol.symm hnd ha hy rfl,h1⟩
  | _ => cases hys
 have hsta:(aks.map AK.av).any AV.isSto=Xb→∃ (i d:Nat) (rows:List (List AV)),aks[i]? = Xa (AK.sto d rows):=by
  intro h
  rw [Uk] at h
  obtain ⟨x,hx,hs⟩:=h
  obtain ⟨a,ha,rfl⟩:=Xj.1 hx
  obtain ⟨i,hi⟩:=XK.1 ha
  cases a with
  | sto d rows => exact ⟨i, d, rows, hi⟩
  | box d fr to cs => cases to <;> cases hs
  | imm y =>
   have hq:=hok i _ hi
   rcases hq with ⟨_,hq⟩ | ⟨_,_,_,_,_,_,rfl,_⟩
   ·rcases hq with ⟨u,rfl⟩ | ⟨cs,rfl⟩ | ⟨f,s,xs,rfl⟩ | hc
    ·cases hs
    ·cases hs
    ·cases hs
    ·rcases YH hc with ⟨_,_,rfl⟩ | ⟨_,_,_,rfl⟩ | ⟨_,rfl⟩ | ⟨_,_,rfl⟩ <;> cases hs
   ·cases hs
  | _ => cases hs
 have hnst:∀ d,(∀ a∈aks,a.slot≠Xa d)→(σ' d).isSto=Xb→(aks.map AK.av).any AV.isSto=Xc:=by
  intro d hno hd
  cases hany:(aks.map AK.av).any AV.isSto with
  | false => rfl
  | true =>
   obtain ⟨i,d',rows,hi⟩:=hsta hany
   have:=hsim.stf.2 d d' hd (by rw [show σ' d' = .store rows from hok i _ hi];rfl)
   subst this
   exact (hno _ (Xh hi) rfl).elim
 have hstc:c.st=Xc→(aks.map AK.av).any AV.isSto=Xc:=by
  intro hc0
  cases hany:(aks.map AK.av).any AV.isSto with
  | false => rfl
  | true =>
   obtain ⟨i,d',rows,hi⟩:=hsta hany
   have:=hsim.stf.1 hc0 d'
   rw [show σ' d' = .store rows from hok i _ hi] at this
   cases this
 have hafter:Sim c (Jm σ' (Zbo aks outs)) tm w' lim' (XaA X X' aks):=by
  have hSours:∀ b,(∃ i k,Zbn X aks i k=Xa b)→c.A b∨c.w0.heap.size≤b:=by
   rintro b ⟨i,k,h⟩
   obtain ⟨a,d,_,_,h3⟩:=hXof i k b h
   exact (hsim.ours d k b h3).2
  have hXa:∀ d k b,XaA X X' aks d k=Xa b→(∃ i a,Zdc aks d 0=Xa (i,a)∧(aks[i]? = Xa a∧a.slot=Xa d)∧X' i k=Xa b)∨(Zdc aks d 0=Xe∧(∀ a∈aks,a.slot≠Xa d)∧X d k=Xa b):=by
   intro d k b h
   unfold XaA at h
   rcases hpass d with ⟨i,a,h1,h2,h3⟩ | ⟨h1,h2⟩
   ·rw [h1] at h
    cases a with
    | imm y => simp at h
    | own t x e xs => simp at h
    | clo _ _ _ => simp at h
    | ref _ _ _ _ => simp at h
    | pad => simp at h
    | box d' fr to cs =>
     simp only [AK.slot,Xf] at h3
     subst h3
     exact .inl ⟨i,_,h1,⟨h2,rfl⟩,h⟩
    | sto d' rows =>
     simp only [AK.slot,Xf] at h3
     subst h3
     exact .inl ⟨i,_,h1,⟨h2,rfl⟩,h⟩
   ·rw [h1] at h
    exact .inr ⟨h1,h2,h⟩
  have hfarA:∀ d,ngN≤d→∀ a∈aks,a.slot≠Xa d:=by
   intro d hd a ha hs
   have h0:=hsim.far d hd
   obtain ⟨j,hj⟩:=XK.1 ha
   have hk:=hok j a hj
   cases a with
   | imm y => simp [AK.slot] at hs
   | clo _ _ _ => simp [AK.slot] at hs
   | pad => simp [AK.slot] at hs
   | ref t x e xs =>
    simp only [AK.slot,Xf] at hs
    subst hs
    rw [hk.1] at h0
    cases h0
   | own t x e xs =>
    simp only [AK.slot,Xf] at hs
    subst hs
    rw [hk.1] at h0
    cases h0
   | box t fr to cs =>
    simp only [AK.slot,Xf] at hs
    subst hs
    rw [hk.1] at h0
    cases fr<;>cases h0
   | sto t rows =>
    simp only [AK.slot,Xf] at hs
    subst hs
    rw [show σ' t = .store rows from hk] at h0
    cases h0
  have hXold:∀ d k b,(∀ a∈aks,a.slot≠Xa d)→X d k=Xa b→¬ ∃ i k,Zbn X aks i k=Xa b:=by
   rintro d k b hno hb ⟨i,k',h⟩
   obtain ⟨a,d',h1,h2,h3⟩:=hXof i k' b h
   obtain ⟨e1,_⟩:=hsim.dist d k d' k' b hb h3
   subst e1
   exact hno a (Xh h1) h2
  -- a box of the caller's stays one
  have hkeep:∀ d' gh cs,σ' d'=mkB gh cs→(∃ cs',Jm σ' (Zbo aks outs) d'=mkB gh cs'∧((∀ a∈aks,a.slot≠Xa d')→cs'=cs))∧XaA X X' aks d' 0=X d' 0:=by
   intro d' gh cs hd'
   rcases hpass d' with ⟨i,a,k1,k2,k3⟩ | ⟨k1,k2⟩
   ·cases a with
    | imm y => simp [AK.slot] at k3
    | clo _ _ _ => simp [AK.slot] at k3
    | pad => simp [AK.slot] at k3
    | own t x e xs =>
     simp only [AK.slot,Xf] at k3
     subst k3
     have:=hok i _ k2
     rw [this.1] at hd'
     cases gh<;>cases hd'
    | ref t x e xs =>
     simp only [AK.slot,Xf] at k3
     subst k3
     have:=hok i _ k2
     rw [this.1] at hd'
     cases gh<;>cases hd'
    | box d'' fr to cs'' =>
     simp only [AK.slot,Xf] at k3
     subst k3
     obtain ⟨cs',b,g1,g2,g3,g4,g5,g6⟩:=hboxOut i d'' fr to cs'' k2
     have hkk:=(hok i _ k2).1
     rw [hd'] at hkk
     have hfg:gh=fr:=by have:=congrArg AV.isG hkk;rwa [Zgf,Zgf] at this
     subst hfg
     refine ⟨⟨cs',g6,fun hno=>(hno _ (Xh k2) rfl).elim⟩,?_⟩
     simp only [XaA,k1]
     rw [g4,g5]
    | sto t rows =>
     simp only [AK.slot,Xf] at k3
     subst k3
     rw [show σ' t = .store rows from hok i _ k2] at hd'
     cases gh<;>cases hd'
   ·exact ⟨⟨cs,by rw [ZR aks outs σ' d' k2];exact hd',fun _=>rfl⟩,by simp only [XaA,k1]⟩
  have hkb:∀ d' cs,σ' d' = .box cs→(∃ cs',Jm σ' (Zbo aks outs) d' = .box cs')∧XaA X X' aks d' 0=X d' 0:=by
   intro d' cs hd'
   obtain ⟨⟨cs',h1,_⟩,h3⟩:=hkeep d' Xc cs hd'
   exact ⟨⟨cs',h1⟩,h3⟩
  -- what is referred to is not handed over
  have href:∀ i d' k,Jh (σ' i) d' k→(∀ a∈aks,a.slot≠Xa i)→∀ a∈aks,a.slot≠Xa d':=by
   intro i d' k hr hni a ha hs
   obtain ⟨p,hp⟩:=Y4 hsim hr
   obtain ⟨j,hj⟩:=XK.1 ha
   have hk:=hok j a hj
   cases a with
   | imm y => simp [AK.slot] at hs
   | clo _ _ _ => simp [AK.slot] at hs
   | pad => simp [AK.slot] at hs
   | sto t rows =>
    simp only [AK.slot,Xf] at hs
    subst hs
    rw [show σ' t = .store rows from hk] at hp
    cases k<;>cases hp
   | ref t x e xs =>
    simp only [AK.slot,Xf] at hs
    subst hs
    rw [hk.1] at hp
    simp [Zp] at hp
   | own t x e xs =>
    simp only [AK.slot,Xf] at hs
    subst hs
    cases x with
    | false => rw [hk.1] at hp; simp [Zp] at hp
    | true =>
     obtain ⟨h1,h2⟩:=(hex j t e xs hj).all hT
     by_cases hit:i=t
     ·subst hit
      rw [hk.1] at hr
      rcases hr with hr | ⟨_,hr⟩ <;> cases hr
     ·have:=h2 i k hit hr
      cases this
   | box t fr to cs =>
    simp only [AK.slot,Xf] at hs
    subst hs
    rw [hk.1,Zh7 fr Xc] at hp
    rcases hbx j t fr to cs hj with hnr | hdr | hdr
    ·cases k with
     | zero => simp [mkB, Zp] at hp
     | succ k =>
      simp only [mkB,Zp] at hp
      split at hp
      ·rename_i e xs hx
       exact hnr _ (Xh hx) e xs rfl
      ·cases hp
    ·obtain ⟨h1,h2⟩:=hdr.all hT
     by_cases hit:i=t
     ·subst hit
      rw [hk.1] at hr
      cases fr<;>rcases hr with hr | ⟨_,hr⟩ <;> cases hr
     ·have:=h2 i k hit hr
      cases this
    ·obtain ⟨a,ha',hsa⟩:=hdr σ' hT i k hr
     exact hni a ha' hsa
  have hkg:∀ d',(σ' d').isG=Xb→(Jm σ' (Zbo aks outs) d').isG=Xb∧XaA X X' aks d' 0=X d' 0:=by
   intro d' hd'
   have hcs:(∃ cs,σ' d'=mkB Xb cs)∨∃ rows,σ' d' = .store rows:=by
    generalize σ' d'=x at hd'
    cases x<;>simp [AV.isG] at hd'
    ·exact .inl ⟨_,rfl⟩
    ·exact .inr ⟨_,rfl⟩
   rcases hcs with ⟨cs,hcs⟩ | ⟨rows,hrows⟩
   ·obtain ⟨⟨cs',h1,_⟩,h3⟩:=hkeep d' Xb cs hcs
    exact ⟨by rw [h1];rfl,h3⟩
   ·have hsl:=hsim.rel d'
    rw [hrows] at hsl
    rcases hpass d' with ⟨i,a,k1,k2,k3⟩ | ⟨k1,k2⟩
    ·have hok':=hok i a k2
     cases a with
     | imm y => simp [AK.slot] at k3
     | clo _ _ _ => simp [AK.slot] at k3
     | pad => simp [AK.slot] at k3
     | own t x e xs =>
      simp only [AK.slot,Xf] at k3
      subst k3
      rw [hok'.1] at hrows
      cases hrows
     | ref t x e xs =>
      simp only [AK.slot,Xf] at k3
      subst k3
      rw [hok'.1] at hrows
      cases hrows
     | box t fr to cs =>
      simp only [AK.slot,Xf] at k3
      subst k3
      rw [hok'.1] at hrows
      cases fr<;>cases hrows
     | sto t rows0 =>
      simp only [AK.slot,Xf] at k3
      subst k3
      obtain ⟨rows',_,g6,g7⟩:=hstoOut i t rows0 k2
      refine ⟨by rw [g6];rfl,?_⟩
      simp only [XaA,k1]
      rw [g7.2.1]
      exact hsl.2.1.symm
    ·refine ⟨by rw [ZR aks outs σ' d' k2,hrows];rfl,?_⟩
     simp only [XaA,k1]
  refine ⟨fun d=>?_,hsim.size,fun d hd=>?_,fun d hd=>?_,fun d k d' k' b h h'=>?_,fun d k b h=>?_,hsim.frm.cstep hstep hSours hstc,fun d v hv=>?_,fun d e xs hdo=>?_,fun d b hb=>?_,hsim.ntN,fun d hd=>?_,fun d k e xs b m1 m2 m3=>?_,fun b m b' hb=>?_,?_⟩
  ·rcases hpass d with ⟨i,a,h1,h2,h3⟩ | ⟨h1,h2⟩
   ·cases a with
    | imm y => simp [AK.slot] at h3
    | clo _ _ _ => simp [AK.slot] at h3
    | pad => simp [AK.slot] at h3
    | own t x e xs =>
     simp only [AK.slot,Xf] at h3
     subst h3
     obtain ⟨y,hy⟩:=houtAt i _ h2
     rw [JZ aks outs σ' i (.own t x e xs) y t hol.symm hnd h2 hy rfl]
     trivial
    | ref t x e xs =>
     simp only [AK.slot,Xf] at h3
     subst h3
     obtain ⟨y,hy⟩:=houtAt i _ h2
     rw [JZ aks outs σ' i (.ref t x e xs) y t hol.symm hnd h2 hy rfl]
     trivial
    | box d' fr to cs =>
     simp only [AK.slot,Xf] at h3
     subst h3
     obtain ⟨cs',b,g1,g2,g3,g4,g5,g6⟩:=hboxOut i d' fr to cs h2
     rw [g6]
     have hrow:XaA X X' aks d'=X' i:=by funext k;simp only [XaA,h1]
     cases fr with
     | false =>
      show ZG c.P w' lim' (XaA X X' aks d') cs' _
      rw [hrow,g3 rfl]
      exact g2
     | true => exact ⟨_, by rw [hrow]; exact g2⟩
    | sto d' rows =>
     simp only [AK.slot,Xf] at h3
     subst h3
     obtain ⟨rows',_,g6,g7⟩:=hstoOut i d' rows h2
     rw [g6]
     have hrow:XaA X X' aks d'=X' i:=by funext k;simp only [XaA,h1]
     show YG c.P w' lim' (XaA X X' aks d') rows'
     rw [hrow]
     exact g7
   ·rw [ZR aks outs σ' d h2]
    have hm:=(hsim.rel d).mono hstep.ext (fun k b hb=>hstep.blk b (hsim.ours d k b hb).1 (hXold d k b h2 hb)) (fun d' k b he hb=>
     .of (hstep.blk b (hsim.ours d' k b hb).1 (hXold d' k b (href d d' k (.inl he) h2) hb)).1) fun rows hrows=>hstep.t (hnst d h2 (by rw [hrows];rfl))
    refine hm.chg (by funext k;simp only [XaA,h1]) hkb hkg fun d' k hr=>?_
    have hno:=href d d' k hr h2
    refine ⟨by rw [ZR aks outs σ' d' hno];exact KO.refl _ _,?_⟩
    rcases hpass d' with ⟨i,a,_,k2,k3⟩ | ⟨k1,_⟩
    ·exact (hno a (Xh k2) k3).elim
    ·simp only [XaA,k1]
  ·rcases hsim.out d hd with h | h
   ·left
    have hno:∀ a∈aks,a.slot≠Xa d:=by
     intro a ha hs
     obtain ⟨i,hi⟩:=XK.1 ha
     have hok':=hok i a hi
     cases a with
     | imm y => simp [AK.slot] at hs
     | clo _ _ _ => simp [AK.slot] at hs
     | pad => simp [AK.slot] at hs
     | own t x e xs =>
      simp only [AK.slot,Xf] at hs
      subst hs
      rw [hok'.1] at h
      cases h
     | ref t x e xs =>
      simp only [AK.slot,Xf] at hs
      subst hs
      rw [hok'.1] at h
      cases h
     | box t fr to cs =>
      simp only [AK.slot,Xf] at hs
      subst hs
      rw [hok'.1] at h
      cases fr<;>cases h
     | sto t rows =>
      simp only [AK.slot,Xf] at hs
      subst hs
      rw [show σ' t = .store rows from hok'] at h
      cases h
    rw [ZR aks outs σ' d hno]
    exact h
   ·exact .inr (hkg d h).1
  ·rcases hpass d with ⟨i,a,h1,h2,h3⟩ | ⟨h1,h2⟩
   ·cases a with
    | imm y => simp [AK.slot] at h3
    | clo _ _ _ => simp [AK.slot] at h3
    | pad => simp [AK.slot] at h3
    | own t x e xs =>
     simp only [AK.slot,Xf] at h3
     subst h3
     obtain ⟨y,hy⟩:=houtAt i _ h2
     rw [JZ aks outs σ' i (.own t x e xs) y t hol.symm hnd h2 hy rfl] at hd
     cases hd
    | ref t x e xs =>
     simp only [AK.slot,Xf] at h3
     subst h3
     obtain ⟨y,hy⟩:=houtAt i _ h2
     rw [JZ aks outs σ' i (.ref t x e xs) y t hol.symm hnd h2 hy rfl] at hd
     cases hd
    | box d' fr to cs =>
     simp only [AK.slot,Xf] at h3
     subst h3
     obtain ⟨cs',b,g1,g2,g3,g4,g5,g6⟩:=hboxOut i d' fr to cs h2
     rw [g6,Zgf] at hd
     exact hsim.ghost d' (by rw [(hok i _ h2).1,Zgf];exact hd)
    | sto d' rows =>
     simp only [AK.slot,Xf] at h3
     subst h3
     exact hsim.ghost d' (by rw [show σ' d' = .store rows from hok i _ h2];rfl)
   ·rw [ZR aks outs σ' d h2] at hd
    exact hsim.ghost d hd
  ·rcases hXa d k b h with ⟨i,a,g1,g2,g3⟩ | ⟨g1,g2,g3⟩ <;> rcases hXa d' k' b h' with ⟨i',a',g1',g2',g3'⟩ | ⟨g1',g2',g3'⟩
   ·obtain ⟨e1,e2⟩:=hdist' i k i' k' b g3 g3'
    subst e1
    rw [g2.1] at g2'
    obtain ⟨h1,h2⟩:=g2'
    cases h1
    rw [g2.2] at h2
    cases h2
    exact ⟨rfl,e2⟩
   ·rcases (hours' i k b g3).2 with hS | hS
    ·exact (hXold d' k' b g2' g3' hS).elim
    ·have:=(hsim.ours d' k' b g3').1;omega
   ·rcases (hours' i' k' b g3').2 with hS | hS
    ·exact (hXold d k b g2 g3 hS).elim
    ·have:=(hsim.ours d k b g3).1;omega
   ·exact hsim.dist d k d' k' b g3 g3'
  ·rcases hXa d k b h with ⟨i,a,g1,g2,g3⟩ | ⟨g1,g2,g3⟩
   ·refine ⟨(hours' i k b g3).1,?_⟩
    rcases (hours' i k b g3).2 with hS | hS
    ·exact hSours b hS
    ·exact .inr (XV hsim.frm.size hS)
   ·exact ⟨XI (hsim.ours d k b g3).1 hstep.size,(hsim.ours d k b g3).2⟩
  ·obtain ⟨p1,cs,p2⟩:=hsim.pin d v hv
   obtain ⟨⟨cs',h1⟩,_⟩:=hkb d cs p2
   exact ⟨p1,cs',h1⟩
  ·rcases hpass d with ⟨i,a,h1,h2,h3⟩ | ⟨h1,h2⟩
   ·exfalso
    cases a with
    | imm y => simp [AK.slot] at h3
    | clo _ _ _ => simp [AK.slot] at h3
    | pad => simp [AK.slot] at h3
    | own t x e xs =>
     simp only [AK.slot,Xf] at h3
     subst h3
     obtain ⟨y,hy⟩:=houtAt i _ h2
     rw [JZ aks outs σ' i (.own t x e xs) y t hol.symm hnd h2 hy rfl] at hdo
     cases hdo
    | ref t x e xs =>
     simp only [AK.slot,Xf] at h3
     subst h3
     obtain ⟨y,hy⟩:=houtAt i _ h2
     rw [JZ aks outs σ' i (.ref t x e xs) y t hol.symm hnd h2 hy rfl] at hdo
     cases hdo
    | box d' fr to cs =>
     simp only [AK.slot,Xf] at h3
     subst h3
     obtain ⟨cs',b,g1,g2,g3,g4,g5,g6⟩:=hboxOut i d' fr to cs h2
     rw [g6] at hdo
     cases fr<;>cases hdo
    | sto d' rows =>
     simp only [AK.slot,Xf] at h3
     subst h3
     obtain ⟨rows',_,g6,_⟩:=hstoOut i d' rows h2
     rw [g6] at hdo
     cases hdo
   ·rw [ZR aks outs σ' d h2] at hdo
    rw [show XaA X X' aks d=X d from by funext k;simp only [XaA,h1]]
    exact (hsim.mp d e xs hdo).mono hstep.ext fun k b hb=>hstep.blk b (hsim.ours d k b hb).1 (hXold d k b h2 hb)
  ·obtain ⟨p1,p2⟩:=hsim.gpin d b hb
   obtain ⟨h1,h2⟩:=hkg d p2
   exact ⟨h2.trans p1,h1⟩
  ·rw [ZR aks outs σ' d (hfarA d hd)]
   exact hsim.far d hd
  ·have hfb:=hfarA (ngN+b) (XR _ _)
   have hXfb:XaA X X' aks (ngN+b)=X (ngN+b):=by
    rcases hpass (ngN+b) with ⟨i,a,g1,g2,g3⟩ | ⟨g1,_⟩
    ·exact (hfb a (Xh g2) g3).elim
    ·funext k;simp only [XaA,g1]
   rcases hpass d with ⟨i,a,h1,h2,h3⟩ | ⟨h1,h2⟩
   ·exfalso
    cases a with
    | imm y => simp [AK.slot] at h3
    | clo _ _ _ => simp [AK.slot] at h3
    | pad => simp [AK.slot] at h3
    | own t x e' xs' =>
     simp only [AK.slot,Xf] at h3
     subst h3
     obtain ⟨y,hy⟩:=houtAt i _ h2
     rw [JZ aks outs σ' i (.own t x e' xs') y t hol.symm hnd h2 hy rfl] at m1
     cases k<;>cases m1
    | ref t x e' xs' =>
     simp only [AK.slot,Xf] at h3
     subst h3
     obtain ⟨y,hy⟩:=houtAt i _ h2
     rw [JZ aks outs σ' i (.ref t x e' xs') y t hol.symm hnd h2 hy rfl] at m1
     cases k<;>cases m1
    | box d' fr to cs =>
     simp only [AK.slot,Xf] at h3
     subst h3
     obtain ⟨cs',b',g1,g2,g3,g4,g5,g6⟩:=hboxOut i d' fr to cs h2
     rw [g6] at m1
     have hno:=hnl' i k e xs (by simp only [ZI,g1];cases fr<;>cases to<;>cases k<;>exact m1)
     rw [hno] at m2
     cases m2
    | sto d' rows =>
     simp only [AK.slot,Xf] at h3
     subst h3
     obtain ⟨rows',_,g6,_⟩:=hstoOut i d' rows h2
     rw [g6] at m1
     cases k<;>cases m1
   ·rw [ZR aks outs σ' d h2] at m1
    rw [show XaA X X' aks d k=X d k from by simp only [XaA,h1]] at m3
    rw [hXfb]
    refine (hsim.nst d k e xs b m1 m2 m3).mono hstep.ext (hstep.blk b (hsim.ours d k b m3).1 (hXold d k b h2 m3)).1 fun j b' hb'=>hstep.blk b' (hsim.ours _ j b' hb').1 (hXold _ j b' hfb hb')
  ·have hfb:=hfarA (ngN+b) (XR _ _)
   rcases hpass (ngN+b) with ⟨i,a,g1,g2,g3⟩ | ⟨g1,_⟩
   ·exact (hfb a (Xh g2) g3).elim
   ·simp only [XaA,g1] at hb
    exact XI (hsim.yfr b m b' hb) hstep.size
  ·have hback:∀ d,(Jm σ' (Zbo aks outs) d).isSto=Xb→(σ' d).isSto=Xb:=by
    intro d hd
    rcases hpass d with ⟨i,a,k1,k2,k3⟩ | ⟨k1,k2⟩
    ·cases a with
     | imm y => simp [AK.slot] at k3
     | clo _ _ _ => simp [AK.slot] at k3
     | pad => simp [AK.slot] at k3
     | own t x e xs =>
      simp only [AK.slot,Xf] at k3
      subst k3
      obtain ⟨y,hy⟩:=houtAt i _ k2
      rw [JZ aks outs σ' i (.own t x e xs) y t hol.symm hnd k2 hy rfl] at hd
      cases hd
     | ref t x e xs =>
      simp only [AK.slot,Xf] at k3
      subst k3
      obtain ⟨y,hy⟩:=houtAt i _ k2
      rw [JZ aks outs σ' i (.ref t x e xs) y t hol.symm hnd k2 hy rfl] at hd
      cases hd
     | box t fr to cs =>
      simp only [AK.slot,Xf] at k3
      subst k3
      obtain ⟨cs',b,g1,g2,g3,g4,g5,g6⟩:=hboxOut i t fr to cs k2
      rw [g6] at hd
      cases fr<;>cases hd
     | sto t rows =>
      simp only [AK.slot,Xf] at k3
      subst k3
      rw [show σ' t = .store rows from hok i _ k2]
      rfl
    ·rw [ZR aks outs σ' d k2] at hd
     exact hd
   refine ⟨fun hc0 d=>?_,fun d d' g g'=>hsim.stf.2 d d' (hback d g) (hback d' g')⟩
   cases hd:(Jm σ' (Zbo aks outs) d).isSto with
   | false => rfl
   | true =>
    have h1:=hback d hd
    rw [hsim.stf.1 hc0 d] at h1
    cases h1
 -- the result
 have hresv:ZQ c.P w' lim' X' (ZI (outs++[res])) aks.length res v:=by
  have h1:=hrel' aks.length
  have ho1:ZI (outs++[res]) aks.length=res:=by
   simp only [ZI]
   rw [Xy (by omega),hol]
   simp
  have hv:ZaK (aks.map AK.av).length cargs v aks.length=v:=by
   unfold ZaK
   rw [if_pos (by rw [Xq])]
  rw [ho1,hv] at h1
  exact h1
 have hresg:res.isG=Xc:=by
  rcases hres with (⟨u,rfl⟩ | ⟨cs,rfl⟩ | ⟨f,s,xs,rfl⟩ | hc) | ⟨b,e,xs,rfl⟩ | ⟨vs,rfl⟩ | ⟨cs,rfl⟩ | ⟨cs,rfl⟩
  rotate_left 3
  ·rcases YH hc with ⟨_,_,rfl⟩ | ⟨_,_,_,rfl⟩ | ⟨_,rfl⟩ | ⟨_,_,rfl⟩ <;> rfl
  all_goals rfl
 cases hdst:o.dst with
 | none => exact ⟨lim', _, hafter⟩
 | some d =>
  intro hd hm
  have hfree:∀ m k b,aks.length≤m→X' m k=Xa b→∀ i j,XaA X X' aks i j≠Xa b:=by
   intro m k b hml hk i j hij
   unfold XaA at hij
   rcases hpass i with ⟨m',a,h1,h2,h3⟩ | ⟨h1,h2⟩
   ·rw [h1] at hij
    cases a with
    | imm y => simp at hij
    | own t x e xs => simp at hij
    | clo _ _ _ => simp at hij
    | ref _ _ _ _ => simp at hij
    | pad => simp at hij
    | box d fr to cs =>
     obtain ⟨e1,_⟩:=hdist' _ _ _ _ b hk hij
     have:=(Xi.1 h2).1
     omega
    | sto d rows =>
     obtain ⟨e1,_⟩:=hdist' _ _ _ _ b hk hij
     have:=(Xi.1 h2).1
     omega
   ·rw [h1] at hij
    rcases (hours' _ k b hk).2 with ⟨i',k',hS⟩ | hS
    ·obtain ⟨a,d',g1,g2,g3⟩:=hXof i' k' b hS
     obtain ⟨e1,_⟩:=hsim.dist i j d' k' b hij g3
     subst e1
     exact h2 a (Xh g1) g2
    ·have:=(hsim.ours i j b hij).1;omega
  have hown:∀ m k b,X' m k=Xa b→c.A b∨c.w0.heap.size≤b:=by
   intro m k b hk
   rcases (hours' _ k b hk).2 with ⟨i,k',hS⟩ | hS
   ·obtain ⟨a,d',_,_,h3⟩:=hXof i k' b hS
    exact (hsim.ours d' k' b h3).2
   ·exact .inr (XV hsim.frm.size hS)
  obtain ⟨X2,hX2,hX2f,hX2b,hX2n⟩:∃ X2,Sim c (Jm σ' (Zbo aks outs)) tm w' lim' X2∧(∀ d,d < ngN→X2 d=XaA X X' aks d)∧(∀ k b,X' aks.length k=Xa b→X2 (ngN+b)=X' (ngN+b))∧∀ k b,X' aks.length k=Xa b→∀ i j,X2 i j≠Xa b:=by
   classical
   refine ⟨fun d=>if ngN≤d∧∃ k,X' aks.length k=Xa (d-ngN) then X' d else XaA X X' aks d,hafter.graft (fun b=>∃ k,X' aks.length k=Xa b) (fun d hd=>if_neg fun h=>by omega) (fun b hb=>if_neg fun h=>hb (by rw [U9] at h;exact h.2)) (fun b ⟨k,hb⟩=>⟨(hours' _ k b hb).1,hfree _ k b (XD _) hb⟩) (fun b k b' hb hk=>?_),fun d hd=>if_neg fun h=>by omega,fun k b hb=>if_pos ⟨XR _ _,k,by rw [U9];exact hb⟩,fun k b hb i j hij=>?_⟩
   ·have hcond:∀ b,(∃ k,X' aks.length k=Xa b)→(if ngN≤ngN+b∧∃ k,X' aks.length k=Xa (ngN+b-ngN) then X' (ngN+b) else XaA X X' aks (ngN+b))=X' (ngN+b):=fun b hb=>if_pos ⟨XR _ _,by rw [U9];exact hb⟩
    rw [hcond b hb] at hk
    refine ⟨(hours' _ k b' hk).1,hown _ k b' hk,fun d j hdj=>(hfree _ k b' (by omega) hk d j hdj).elim,fun b2 k2 hb2 hk2=>?_⟩
    rw [hcond b2 hb2] at hk2
    obtain ⟨e1,e2⟩:=hdist' _ _ _ _ b' hk2 hk
    exact ⟨by omega,e2⟩
   ·have hij':(if ngN≤i∧∃ k,X' aks.length k=Xa (i-ngN) then X' i else XaA X X' aks i) j=Xa b:=hij
    split at hij'
    ·rename_i hc
     have:=(hdist' _ _ _ _ b hb hij').1
     omega
    ·exact hfree _ k b (XD _) hb i j hij'
  refine ⟨lim',_,hX2.putRow (X' aks.length) (ZU.refl w' lim' (fun _=>False)) (fun _ hs=>hs.elim) hd (tm':=tm.setIfInBounds d v) (by simp) (fun i hi=>ZD tm d i v hi) (.inl (ZA hm).1) (fun i q hi hr=>(hX2.noRefs (ZA hm).none i q hi hr).elim) ?_ (fun k b hk=>⟨(hours' _ k b hk).1,hown _ k b hk,fun i j _=>hX2n k b hk i j⟩) (fun k k' b hk hk'=>(hdist' _ k _ k' b hk hk').2) hresg (fun e xs he=>.mv (hrm e xs he)) (hns:=fun k e xs b m1 m2 m3=>by rw [hX2b k b m3];exact hnr' k e xs b m1 m2 m3)⟩
  rw [Jp tm d v (by rw [hsim.size];exact hd)]
  exact Zk7 hres hresv (Zl _ d _)
theorem Zf0 {P:Program} {o:Oper} {σ:Nat→AV} {f:FuncId} {first captured:Array Operand} {ds:List Nat} (ho:o.op = .makeFunc (.func f) first captured) (hf:first.toList = [])
  (hl:captured.toList.length=ds.length) (hc:∀ (i:Nat) (x:Operand) (d:Nat),(captured.toList)[i]? = Xa x→ds[i]? = Xa d→Zn P σ x = .ptr d 0∧∃ cs,σ d = .box cs):Jg P o σ (.clo f ds) [] ds:=by
 have hf':first = #[]:=by apply XG.1;rw [hf]
 refine Zt ds rfl fun c hcP σ' tm w lim X hg hfp hsim=>⟨.func (.func f) #[] (captured.map (Act.eval ⟨tm,[]⟩)),?_,?_⟩
 ·simp [execOp,ho,Instr.makeFunc,hf']
 ·have hb:∀ i:Nat,∃ b:Nat,∀ (x:Operand) (d:Nat),(captured.toList)[i]? = Xa x→ds[i]? = Xa d→Act.eval ⟨tm,[]⟩ x = .pointer (Xa ⟨b,0,Xe⟩)∧X d 0=Xa b∧(σ' d).isB=Xb:=by
   intro i
   cases hx:captured.toList[i]? with
   | none => exact ⟨0, fun x d h => by cases h⟩
   | some x =>
    cases hd:ds[i]? with
    | none => exact ⟨0, fun x d _ h => by cases h⟩
    | some d =>
     obtain ⟨h1,cs,h2⟩:=hc i x d hx hd
     rw [ho] at hg
     have hv:=JF hcP hsim h1 (hg x (by
      have:=Xh hx
      simp [Op.operands,Array.mem_toList_iff.1 this]))
     obtain ⟨b,cs',m1,m2,m3⟩:=hv
     refine ⟨b,fun y e hy he=>?_⟩
     cases hy
     cases he
     exact ⟨m3,m1,by rw [m2];rfl⟩
  obtain ⟨bf,hbf⟩:=Classical.axiomOfChoice hb
  have hat:∀ i,i < ds.length→∃ x,captured.toList[i]? = Xa x:=fun i hi=>⟨_,Xp (by rw [hl];exact hi)⟩
  refine ⟨(Wf ds.length).map bf,?_,by simp,fun i d b hd hb=>?_⟩
  ·have:captured.map (Act.eval ⟨tm,[]⟩)=(((Wf ds.length).map bf).map fun b=>Value.pointer (Xa ⟨b,0,Xe⟩)).toArray:=by
    apply XG.1
    rw [Array.toList_map]
    apply Ua
    intro i
    rw [Xk,Xk,Xk]
    by_cases hi:i < ds.length
    ·obtain ⟨x,hx⟩:=hat i hi
     rw [hx,List.getElem?_range hi]
     simp only [Xo]
     exact congrArg Xa (hbf i x _ hx (Xp hi)).1
    ·rw [Uc (by rw [hl];omega),Uc (by simp;omega)]
     rfl
   rw [this]
  ·have hi:=(Xi.1 hd).1
   obtain ⟨x,hx⟩:=hat i hi
   rw [Xk,List.getElem?_range hi] at hb
   simp only [Xo,Xf] at hb
   subst hb
   exact ⟨(hbf i x d hx hd).2.1,(hbf i x d hx hd).2.2⟩
def Zm (y:AV) (k:Nat) (b:Bool) (e:TypeId) (xs:List (List AV)):AV:=
 match y,k with
 | .own _ _ _, 0 => .own b e xs
 | .box cs, k + 1 => .box (cs.set k (.own b e xs))
 | y, _ => y
theorem Kg {w:World} {b:Nat} {cur cs:Array Value} {t:TypeId} (hg:w.heap[b]? = Xa (.cells cur t (0,0))) (hs:cs.size=cur.size) (b':Nat):Zaq w (w.setRow b cs) b':=by
 by_cases h:b'=b
 ·subst h
  refine ⟨fun arr e h1=>?_,fun es clock h1=>?_⟩
  ·rw [hg] at h1
   simp only [Xf,Obj.cells.injEq,and_true] at h1
   obtain ⟨rfl,rfl⟩:=h1
   exact ⟨cs,setRow_heap w b' cur cs t _ hg,hs⟩
  ·rw [hg] at h1;cases h1
 ·exact .of (setRow_other w b b' cs h)
theorem Sim.setPlace {c:Ctx} {σ:Nat→AV} {tm:Array Value} {w:World} {lim:Lm} {X:Nat→Nat→Option Nat} (h:Sim c σ tm w lim X) {d k b:Nat} {e:TypeId} {xs xs':List (List AV)} {arr arr':Array Value}
  (hp:Zp (σ d) k=Xa (e,xs)) (hng:(σ d).isG=Xc) (hX:X d k=Xa b) (hheap:w.heap[b]? = Xa (.cells arr e (0,0))) (hsz:arr'.size=arr.size) (hl:xs'.length=xs.length) (h1:∀ x∈xs',x.length=c.P.cellsOf e) (h2:∀ x∈xs',∀ z∈x,z.isCell=Xb)
  (hr:∀ (j:Nat) (z:AV) (u:Value),xs'.flatten[j]? = Xa z→arr'[j]? = Xa u→Rep w lim z u) :
  ∃ X',Sim c (upd σ d (Zm (σ d) k Xb e xs')) tm (w.setRow b arr') lim X':=by
 have hnd:Ze c.P e=Xc:=by
  cases hd:Ze c.P e with
  | false => rfl
  | true =>
   obtain ⟨arr2,h3⟩:=h.deepB (Z4 hp) hd b hX
   rw [hheap] at h3
   simp only [Xf,Obj.cells.injEq,and_true] at h3
   have h8:2097152≤e:=by simp only [Ze,Xs,decide_eq_true_eq] at hd;exact hd.1
   have h9:=h3.2
   rw [bT,if_pos h8] at h9
   exact absurd h9.symm (Nat.ne_of_lt (Nat.sub_lt (XI (by decide) h8) (by decide)))
 have hnew:∀ v,ZV c.P w lim Xb e xs v (Xa b)→ZV c.P (w.setRow b arr') lim Xb e xs' v (Xa b):=by
  intro v ho
  obtain ⟨arr0,cap,g1,g2,g3,g4,g5,g6,g7,g8,g9⟩:=Va ho (.inr ⟨hnd,_,_,_,hheap⟩)
  rw [hheap] at g2
  simp only [Xf,Obj.cells.injEq,and_true] at g2
  subst g2
  have hstep:=YJ (cs:=arr') hheap g3
  rw [g1,← hl]
  exact ZdG (setRow_heap w b arr arr' e _ hheap) g3 (by omega) g5 (by rw [hsz];exact g6) h1 h2 fun j z u hz hu=>(hr j z u hz hu).mono hstep.ext
 have hlim:lim b=0:=by
  obtain ⟨v,ho⟩:=Yd h hp
  rw [hX] at ho
  obtain ⟨_,_,_,_,g3,_⟩:=Va ho (.inr ⟨hnd,_,_,_,hheap⟩)
  exact g3
 have hstep:=YJ (cs:=arr') hheap hlim
 have hrel:=h.rel d
 rcases ZB hp with ⟨ho,rfl⟩ | ⟨cs,q,ho,rfl,hq⟩ | ⟨cs,q,ho,rfl,hq⟩
 case inr.inr=>rw [ho] at hng;cases hng
 ·have hdn:d < c.nt:=JL h (by rw [ho];exact fun h=>by cases h) (by rw [ho];rfl)
  rw [ho] at hrel
  refine ⟨_,h.putRow (hmp:=fun e1 xs1 _=>.cells fun b' hb'=>by rw [hX] at hb';cases hb';exact ⟨_,_,_,setRow_heap w b arr arr' e _ hheap⟩) (hns:=fun k e1 xs1 b' m1 m2 m3=>by
   rw [ho] at m1
   cases k with
   | zero =>
    simp only [Zm,ZY,Xf,Xn] at m1
    rw [← m1.1,hnd] at m2
    cases m2
   | succ k => simp [Zm, ZY] at m1) (S := fun b' => b' = b) (X d) hstep (fun b' hb' => ⟨0, by rw [hb']; exact hX⟩) hdn rfl (fun i _ => rfl) (.inl fun cs hcs => by rw [ho] at hcs; cases hcs) (fun i q hi hr => ?_) ?_ (fun k b' hk => ?_) (fun k k' b' hk hk' => (h.dist d k d k' b' hk hk').2) (by rw [ho]; rfl)⟩
  ·refine ⟨fun e' ys hy=>?_,rfl,fun b' _=>Kg hheap hsz b'⟩
   rw [ho] at hy ⊢
   cases q with
   | succ q => simp [Zp] at hy
   | zero =>
    simp only [Zp,Xf,Xn] at hy
    obtain ⟨rfl,rfl⟩:=hy
    exact ⟨xs',rfl,hl⟩
  ·rw [ho]
   show ZV c.P _ lim Xb e xs' _ (Ke X d (X d) d 0)
   rw [Zl,hX]
   refine hnew _ ?_
   rw [← hX]
   exact hrel
  ·exact ⟨by have:=(h.ours d k b' hk).1;simpa using this,(h.ours d k b' hk).2,fun i j hi hij=>hi (h.dist i j d k b' hij hk).1⟩
 ·have hdn:d < c.nt:=JL h (by rw [ho];exact fun h=>by cases h) (by rw [ho];rfl)
  rw [ho] at hrel
  obtain ⟨b0,arr0,t0,g1,g2,g3,g4,g5,g6,g7⟩:=(show ZG c.P w lim (X d) cs _ from hrel)
  have hne:b0≠b:=fun e'=>by
   have:=(h.dist d (q+1) d 0 b hX (by rw [← e'];exact g1)).2
   omega
  refine ⟨_,h.putRow (hmp:=fun e1 xs1 he=>by rw [ho] at he;simp [Zm] at he) (hns:=fun k e1 xs1 b' m1 m2 m3=>by
   rw [ho] at m1
   rcases JU m1 with ⟨_,m4⟩ | ⟨m4,m5⟩
   ·injection m4 with _ m4
    rw [← m4,hnd] at m2
    cases m2
   ·have hng:=h.ntN
    refine (h.nst d k e1 xs1 b' (by rw [ho];exact m5) m2 m3).mono hstep.ext (setRow_other w b b' arr' fun e'=>?_) fun j b2 hb2=>hstep.blk b2 (h.ours _ j b2 hb2).1 fun e'=>?_
    ·exact m4 (h.dist d k d (q+1) b' m3 (by rw [e'];exact hX)).2
    ·have:=(h.dist (ngN+b') j d (q+1) b2 hb2 (by rw [e'];exact hX)).1
     omega) (S:=fun b'=>b'=b) (X d) hstep (fun b' hb'=>⟨q+1,by rw [hb'];exact hX⟩) hdn rfl (fun i _=>rfl) (.inr ⟨⟨_,by rw [ho];rfl⟩,rfl,rfl⟩) (fun i q' hi hr=>?_) ?_ (fun k b' hk=>?_) (fun k k' b' hk hk'=>(h.dist d k d k' b' hk hk').2) (by rw [ho];rfl)⟩
  ·refine ⟨fun e' ys hy=>?_,rfl,fun b' _=>Kg hheap hsz b'⟩
   rw [ho] at hy ⊢
   cases q' with
   | zero => simp [Zp] at hy
   | succ q' =>
    simp only [Zm,Zp] at hy ⊢
    by_cases hqq:q'=q
    ·subst hqq
     rw [hq] at hy
     simp only [Xf,Xn] at hy
     obtain ⟨rfl,rfl⟩:=hy
     rw [X8 (Xi.1 hq).1]
     exact ⟨xs',rfl,hl⟩
    ·rw [Wg (fun h=>hqq h.symm)]
     exact ⟨ys,hy,rfl⟩
  ·rw [ho]
   refine ⟨b0,arr0,t0,by rw [Zl];exact g1,g2,(setRow_other w b b0 arr' hne).trans g3,by rw [Ux];exact g4,g5,fun x hx=>?_,fun i x u hx hu=>?_⟩
   ·rcases Wo hx with hx | hx
    ·exact g6 x hx
    ·exact .inr (.inl ⟨_,_,_,hx⟩)
   ·rw [Zl]
    by_cases hi:i=q
    ·subst hi
     rw [X8 (Xi.1 hq).1] at hx
     simp only [Xf] at hx
     subst hx
     show ZV c.P _ lim Xb e xs' u (X d (i+1))
     rw [hX]
     refine hnew u ?_
     rw [← hX]
     exact g7 i _ u hq hu
    ·rw [Wg (fun h=>hi h.symm)] at hx
     refine (g7 i x u hx hu).mono hstep.ext fun b' hb'=>hstep.blk b' (h.ours d (i+1) b' hb').1 fun e'=>?_
     have:=(h.dist d (i+1) d (q+1) b' hb' (by rw [e'];exact hX)).2
     omega
  ·exact ⟨by have:=(h.ours d k b' hk).1;simpa using this,(h.ours d k b' hk).2,fun i j hi hij=>hi (h.dist i j d k b' hij hk).1⟩
theorem Znx {P:Program} {o:Oper} {σ:Nat→AV} {T e:TypeId} {t t':Operand} {i:TypeInfo} {z:Value} {zc zc':List AV} {k:IntKind} {m:Int} (x:Bool) (ho:o.op = .makeSlice T t t') (hT:P.underlying T=Xa (.slice e)) (hi:P.info? e=Xa i)
  (hz:i.zero=Xa z) (hzs:z.cells.size=i.size) (hzc:Zae z.cells.toList=Xa zc) (ht:Zn P σ t = .val (.int k m)) (ht':Zn P σ t' = .val (.int k m)) (h0:0≤m) (hm:m.toNat*(i.bytes+1)≤ZZ) (hnm:Zj P e=Xc)
  (hw:zc'.length=zc.length∧∀ (w:World) (lim:Lm) (us:List Value),JJ w lim zc us→JJ w lim zc' us) :
  Jg P o σ (.own x e (Xm m.toNat zc')) [] []:=by
 intro c hc σ' tm w lim X hid hag hsim next Q hn
 have hg:Zn P σ' t=Zn P σ t:=Zw fun u hu=>hid u (by simp [Zo (o:=o) (x:=t) (by rw [ho];simp [Op.operands]) hu])
 have hg':Zn P σ' t'=Zn P σ t':=Zw fun u hu=>hid u (by simp [Zo (o:=o) (x:=t') (by rw [ho];simp [Op.operands]) hu])
 have hv:Act.eval ⟨tm,[]⟩ t = .int k m:=ZP hc hsim ht hg
 have hv':Act.eval ⟨tm,[]⟩ t' = .int k m:=ZP hc hsim ht' hg'
 have hsz:P.cellsOf e=i.size:=ZH hi
 have hzr:=hw.2 w lim _ (J6 (w:=w) (lim:=lim) hzc)
 have hzl:z.cells.toList.length=i.size:=by rw [← hzs];simp
 have hb1:m.toNat≤1099511627776:=by
  have:m.toNat*1≤m.toNat*(i.bytes+1):=UW _ (by omega)
  unfold ZZ at hm
  omega
 have hb2:(i.bytes:Int)*m≤281474976710656:=by
  have h1:m.toNat*i.bytes≤m.toNat*(i.bytes+1):=UW _ (by omega)
  unfold ZZ at hm
  have h2:((m.toNat*i.bytes:Nat):Int)=(i.bytes:Int)*m:=by
   rw [Int.natCast_mul,Int.mul_comm]
   congr 1
   omega
  omega
 have hmx:(1099511627776:Nat)≤maxLen:=by decide
 have hrun:=run_make (P:=P) w T e i z hT hi hz k k m m h0 (Int.le_refl _) hb2 (by omega)
 have hmade:madeCells z.cells (m.toNat*i.size)=((Xm m.toNat z.cells.toList).flatten).toArray:=by
  have:=replicate_zero z.cells.toList m.toNat
  rw [hzl,Ui] at this
  exact this
 have hrl:=J1 hzr m.toNat
 have hx1:∀ x∈Xm m.toNat zc',x.length=P.cellsOf e:=by
  intro x hx
  rw [(Wd.1 hx).2,hzr.1,hzl,hsz]
 have hstep:=KJ w lim (madeCells z.cells (m.toNat*i.size)) e (if x=Xb then 0 else m.toNat*i.size) (fun _=>False)
 have hx2:∀ x∈Xm m.toNat zc',∀ y∈x,y.isCell=Xb:=fun x hx y hy=>by
  rw [(Wd.1 hx).2] at hy
  exact hzr.2.1 y hy
 have hx3:∀ (j:Nat) (y:AV) (u:Value),(Xm m.toNat zc').flatten[j]? = Xa y→(madeCells z.cells (m.toNat*i.size))[j]? = Xa u→Rep (w.alloc (.cells (madeCells z.cells (m.toNat*i.size)) e)) ⟨fun b=>if b=w.heap.size then (if x=Xb then 0 else m.toNat*i.size) else lim b,lim.t⟩ y u:=fun j y u hy hu=>(hrl.2.2 j y u hy (by rw [hmade] at hu;simpa using hu)).mono hstep.ext
 have hms:(madeCells z.cells (m.toNat*i.size)).toList.length=m.toNat*i.size:=by rw [Uj,size_madeCells]
 have key:ZV P (w.alloc (.cells (madeCells z.cells (m.toNat*i.size)) e)) ⟨fun b=>if b=w.heap.size then (if x=Xb then 0 else m.toNat*i.size) else lim b,lim.t⟩ x e (Xm m.toNat zc') (.slice (Xa ⟨w.heap.size,0,Xe⟩) (Xm m.toNat zc').length m.toNat) (Xa w.heap.size):=by
  cases x
  ·refine .inl ⟨(madeCells z.cells (m.toNat*i.size)).toList,⟨by rw [hms,UO,hsz],.inr ⟨w.heap.size,m.toNat,_,rfl,Wh _,J9 w _ e,by simp,by omega,by rw [size_madeCells,hsz],Um (by rw [hms,UO,hsz];exact XD _)⟩⟩,rfl,fun b hb=>?_,hx1,hx2,fun j y u hy hu=>hx3 j y u hy (by simpa using hu)⟩
   cases hb
   show (if w.heap.size=w.heap.size then (if Xc=Xb then 0 else m.toNat*i.size) else lim w.heap.size)=_
   rw [if_pos rfl,hms]
  ·exact ZdG (J9 w _ e) (if_pos rfl) (by simp) (by omega) (by rw [size_madeCells,hsz]) hx1 hx2 hx3
 rw [UO] at key
 have hw2:=hsim.world hstep fun _ hs=>hs.elim
 refine Zi (v:=.slice (Xa ⟨w.heap.size,0,Xe⟩) m.toNat m.toNat) (w':=w.alloc (.cells (madeCells z.cells (m.toNat*i.size)) e)) ?_ (hn _ _ (ZT hw2 (by rw [hc];exact key) (fun b hb=>?_) (fun _=>.cells fun b hb=>by cases hb;exact ⟨_,_,_,J9 w _ e⟩) fun _ hd=>by rw [hc,ZL hnm] at hd;cases hd))
 ·simp only [execOp,ho,hv,hv',Sem.run_bind,hrun,Result.andThen_ok,Sem.run_pure]
 ·simp only [Xf] at hb
  subst hb
  exact ⟨.inr hsim.frm.size,fun i j=>Yi hsim i j⟩
theorem Zeg {c:Ctx} {σ:Nat→AV} {tm:Array Value} {w:World} {lim:Lm} {X:Nat→Nat→Option Nat} (h:Sim c σ tm w lim X) {d q k:Nat} {e:TypeId} {xs:List (List AV)} {v:Value}
  (hd:Zp (σ d) q=Xa (e,xs)) (hv:ZQ c.P w lim X σ k (.mref d q) v) (hnm:Zj c.P e=Xc∨Ze c.P e=Xb):(xs = []∧(v = .slice Xe 0 0∨∃ a,v = .slice (Xa a) 0 0))∨
   ∃ b arr cap cap',X d q=Xa b∧v = .slice (Xa ⟨b,0,Xe⟩) xs.length cap'∧w.heap[b]? = Xa (.cells arr (bT e) (0,0))∧lim b=0∧xs.length≤cap∧cap≤maxLen∧
   arr.size=cap*c.P.cellsOf (bT e)∧(∀ x∈xs,x.length=c.P.cellsOf (bT e))∧(∀ x∈xs,∀ c∈x,c.isCell=Xb)∧∀ (j:Nat) (c:AV) (u:Value),xs.flatten[j]? = Xa c→arr[j]? = Xa u→Rep w lim c u:=by
 obtain ⟨e',xs',h1,h2⟩:=hv
 rw [hd] at h1
 simp only [Xf,Xn] at h1
 obtain ⟨rfl,rfl⟩:=h1
 have hno:Zj c.P e=Xb→Ze c.P e=Xc→False:=fun h1 h2=>by
  rcases hnm with h3 | h3
  ·rw [h3] at h1;cases h1
  ·rw [h3] at h2;cases h2
 rcases h2 with ⟨_,h2,h3⟩ | ⟨b,arr,cap',h2,h3,h4,h5⟩ | ⟨h2,h3,_⟩ | ⟨h2,h3,_⟩
 ·exact .inl ⟨XY h2,h3⟩
 ·obtain ⟨u,ho⟩:=Yd h hd
  rw [h2] at ho
  obtain ⟨arr0,cap,g1,g2,g3⟩:=K1 ho hnm (by rw [← h2];exact h.deepB (Z4 hd))
  exact .inr ⟨b,arr0,cap,cap',h2,h5,g2,g3⟩
 ·exact (hno h2 h3).elim
 ·exact (hno h2 h3).elim
theorem ZfP {c:Ctx} {σ:Nat→AV} {tm:Array Value} {w:World} {lim:Lm} {X:Nat→Nat→Option Nat} (h:Sim c σ tm w lim X) {d q k:Nat} {e:TypeId} {xs:List (List AV)} {v:Value}
  (hd:Zp (σ d) q=Xa (e,xs)) (hv:ZQ c.P w lim X σ k (.mref d q) v) (hnm:Zj c.P e=Xc):(xs = []∧(v = .slice Xe 0 0∨∃ a,v = .slice (Xa a) 0 0))∨
   ∃ b arr cap cap',X d q=Xa b∧v = .slice (Xa ⟨b,0,Xe⟩) xs.length cap'∧w.heap[b]? = Xa (.cells arr e (0,0))∧lim b=0∧xs.length≤cap∧cap≤maxLen∧
   arr.size=cap*c.P.cellsOf e∧(∀ x∈xs,x.length=c.P.cellsOf e)∧(∀ x∈xs,∀ c∈x,c.isCell=Xb)∧∀ (j:Nat) (c:AV) (u:Value),xs.flatten[j]? = Xa c→arr[j]? = Xa u→Rep w lim c u:=by
 have:=Zeg h hd hv (.inl hnm)
 rwa [K3 hnm] at this
theorem ZdS {P:Program} {o:Oper} {σ:Nat→AV} {T e e':TypeId} {x i:Operand} {d q:Nat} {xs:List (List AV)} {k:IntKind} {z:Int} (ho:o.op = .indexAddr T x i)
  (hT:P.underlying T=Xa (.slice e)) (hs0:P.cellsOf e≠0) (hx:Zn P σ x = .mref d q) (hd:Zp (σ d) q=Xa (e',xs)) (hbe:bT e'=e) (hi:Zn P σ i = .val (.int k z)) (h0:0≤z) (hz:z.toNat < xs.length) (hnm:Zj P e'=Xc∨Ze P e'=Xb) :
  Jg P o σ (.eref d q (z.toNat*P.cellsOf e+0)) [] [d]:=by
 refine Zt [d] rfl fun c hc σ' tm w lim X hg hfp hsim=>?_
 rw [ho] at hg
 have hv:=JF hc hsim hx (hg x (by simp [Op.operands]))
 have hiv:=ZP hc hsim hi (hg i (by simp [Op.operands]))
 have hd':Zp (σ' d) q=Xa (e',xs):=by rw [hfp d (by simp),hd]
 rw [← hc] at hv
 rcases Zeg hsim hd' hv (by rw [hc];exact hnm) with ⟨rfl,_⟩ | ⟨b,arr,cap,cap',g1,g2,g3⟩
 ·simp at hz
 ·obtain ⟨inf,hinf⟩:=Zr hs0
  have hsz:P.cellsOf e=inf.size:=ZH hinf
  refine ⟨.pointer (Xa ⟨b,z.toNat*P.cellsOf e+0,Xe⟩),?_,b,e',xs,hd',g1,.inl ⟨hnm,rfl⟩⟩
  have hb:0≤z∧z < (xs.length:Int):=⟨h0,by omega⟩
  simp [execOp,ho,g2,hiv,Instr.indexAt,asIntOf,run_underlying hT,hb,Zu hinf,Jc]
theorem J4 {s:Nat} : ∀ (xs:List (List AV)) (k:Nat),(∀ x∈xs,x.length=s)→(xs.take k).flatten=xs.flatten.take (k*s)
 | [], k, _ => by simp
 | x :: xs, 0, _ => by simp
 | x :: xs, k + 1, h => by
  have hx:x.length=s:=h x (by simp)
  simp only [List.take_succ_cons,Wj]
  rw [J4 xs k fun y hy=>h y (by simp [hy]),List.take_append]
  have e1:(k+1)*s-x.length=k*s:=by rw [X9];omega
  rw [e1,Um (l:=x) (by rw [X9];omega)]
theorem Vd {s:Nat} : ∀ (xs:List (List AV)) (k:Nat),(∀ x∈xs,x.length=s)→(xs.drop k).flatten=xs.flatten.drop (k*s)
 | [], k, _ => by simp
 | x :: xs, 0, _ => by simp
 | x :: xs, k + 1, h => by
  have hx:x.length=s:=h x (by simp)
  simp only [List.drop_succ_cons,Wj]
  rw [Vd xs k fun y hy=>h y (by simp [hy]),List.drop_append]
  have e1:(k+1)*s-x.length=k*s:=by rw [X9];omega
  rw [e1,Ut (l:=x) (by rw [X9];omega)]
  rfl
theorem JD {s:Nat} {xs:List (List AV)} {i o:Nat} {e:List AV} (h:∀ x∈xs,x.length=s) (hi:i < xs.length) (ho:o+e.length≤s) :
  (ZC xs i o e).flatten=xs.flatten.take (i*s+o)++e++xs.flatten.drop (i*s+o+e.length):=by
 have hx:xs[i].length=s:=h _ (Wl hi)
 have e0:xs=xs.take i++xs[i]::xs.drop (i+1):=by rw [List.getElem_cons_drop,List.take_append_drop]
 have hl:(xs.take i).flatten.length=i*s:=by
  rw [J4 xs i h,XQ,Zg xs _ h]
  have:i*s≤xs.length*s:=XN _ (by omega)
  omega
 have e1:ZC xs i o e=xs.take i++setCells xs[i] o e::xs.drop (i+1):=by
  unfold ZC
  rw [List.modify_eq_take_cons_drop hi]
 have e2:=congrArg List.flatten e0
 rw [Us,Wj] at e2
 rw [e1,e2]
 simp only [Us,Wj]
 rw [List.take_append,List.drop_append,hl,Um (l:=(xs.take i).flatten) (by rw [hl];omega),Ut (l:=(xs.take i).flatten) (by rw [hl];omega)]
 have e3:i*s+o-i*s=o:=by omega
 have e4:i*s+o+e.length-i*s=o+e.length:=by omega
 rw [e3,e4,List.take_append_of_le_length (by omega),List.drop_append_of_le_length (by omega)]
 unfold setCells
 simp only [XX,Xu]
theorem Yw {s:Nat} {xs:List (List AV)} {i o:Nat} {e:List AV} (h:∀ x∈xs,x.length=s) (hc:∀ x∈xs,∀ c∈x,c.isCell=Xb) (ho:o+e.length≤s) (he:∀ c∈e,c.isCell=Xb) :
  ∀ x∈ZC xs i o e,x.length=s∧∀ c∈x,c.isCell=Xb:=by
 intro x hx
 obtain ⟨j,hj⟩:=XK.1 hx
 unfold ZC at hj
 rw [List.getElem?_modify] at hj
 cases hy:xs[j]? with
 | none => rw [hy] at hj; cases hj
 | some y =>
  rw [hy] at hj
  simp only [Option.map_eq_map,Xo,Xf] at hj
  subst hj
  split
  ·have hm:=Xh hy
   have hl:=h y hm
   refine ⟨by simp [setCells,hl];omega,fun c hcx=>?_⟩
   unfold setCells at hcx
   rcases Xt.1 hcx with hcx | hcx
   ·rcases Xt.1 hcx with hcx | hcx
    ·exact hc y hm c (XO hcx)
    ·exact he c hcx
   ·exact hc y hm c (XW hcx)
  ·have hm:=Xh hy
   exact ⟨h y hm,hc y hm⟩
theorem Zgk {R:AV→Value→Prop} {zs vs:List AV} {us ws:List Value} {off:Nat} (h:∀ (j:Nat) (z:AV) (u:Value),zs[j]? = Xa z→us[j]? = Xa u→R z u) (h':∀ (j:Nat) (z:AV) (u:Value),vs[j]? = Xa z→ws[j]? = Xa u→R z u)
  (hl:vs.length=ws.length) (h1:off≤zs.length) (h2:off≤us.length) :
  ∀ (j:Nat) (z:AV) (u:Value),(zs.take off++vs++zs.drop (off+vs.length))[j]? = Xa z→(us.take off++ws++us.drop (off+ws.length))[j]? = Xa u→R z u:=by
 intro j z u hz hu
 have l1:(zs.take off).length=off:=by rw [XQ];omega
 have l2:(us.take off).length=off:=by rw [XQ];omega
 rw [Xu] at hz hu
 rcases Xx j off with hlt | hge
 ·rw [Xv (by omega),List.getElem?_take_of_lt hlt] at hz hu
  exact h j z u hz hu
 ·rw [Xy (by omega),l1] at hz
  rw [Xy (by omega),l2] at hu
  rcases Xx (j-off) vs.length with hlt | hge'
  ·rw [Xv hlt] at hz
   rw [Xv (by omega)] at hu
   exact h' _ z u hz hu
  ·rw [Xy hge',XH] at hz
   rw [Xy (by omega),XH] at hu
   rw [← hl] at hu
   exact h _ z u hz hu
theorem Zfw {c:Ctx} {σ:Nat→AV} {tm:Array Value} {w:World} {lim:Lm} {X:Nat→Nat→Option Nat} (h:Sim c σ tm w lim X) {d q k p:Nat} {e:TypeId} {xs:List (List AV)} {v:Value}
  (hd:Zp (σ d) q=Xa (e,xs)) (hv:ZQ c.P w lim X σ k (.eref d q p) v) (hnm:Zj c.P e=Xc) :
   ∃ b arr cap,X d q=Xa b∧v = .pointer (Xa ⟨b,p,Xe⟩)∧w.heap[b]? = Xa (.cells arr e (0,0))∧lim b=0∧xs.length≤cap∧cap≤maxLen∧
   arr.size=cap*c.P.cellsOf e∧(∀ x∈xs,x.length=c.P.cellsOf e)∧(∀ x∈xs,∀ c∈x,c.isCell=Xb)∧∀ (j:Nat) (c:AV) (u:Value),xs.flatten[j]? = Xa c→arr[j]? = Xa u→Rep w lim c u:=by
 obtain ⟨b,e',xs',h1,h2,h3⟩:=hv
 rw [hd] at h1
 simp only [Xf,Xn] at h1
 obtain ⟨rfl,rfl⟩:=h1
 obtain ⟨u,ho⟩:=Yd h hd
 rw [h2] at ho
 obtain ⟨arr0,cap,g1,g2,g3⟩:=Va ho (.inl hnm)
 exact ⟨b,arr0,cap,h2,h3.ptr (.inl hnm),g2,g3⟩
theorem Zj4 {w:World} {lim:Lm} {xs:List (List AV)} {s i off n:Nat} {row:List AV} {arr:Array Value} {cap:Nat} (h1:∀ x∈xs,x.length=s) (h2:∀ x∈xs,∀ c∈x,c.isCell=Xb)
  (h3:∀ (j:Nat) (c:AV) (u:Value),xs.flatten[j]? = Xa c→arr[j]? = Xa u→Rep w lim c u) (h4:arr.size=cap*s) (h5:xs.length≤cap) (hrow:xs[i]? = Xa row) (hfit:off+n≤s) :
  ((arr.toList.drop (i*s+off)).take n).length=n∧((row.drop off).take n).length=n∧(∀ c∈(row.drop off).take n,c.isCell=Xb)∧
   ∀ (j:Nat) (c:AV) (u:Value),((row.drop off).take n)[j]? = Xa c→((arr.toList.drop (i*s+off)).take n)[j]? = Xa u→Rep w lim c u:=by
 have hi:=(Xi.1 hrow).1
 have hrl:=h1 row (Xh hrow)
 have hm:i*s+s≤cap*s:=by
  rw [← X9];exact XN _ (by omega)
 refine ⟨by simp [h4];omega,by simp [hrl];omega,fun c hc=>h2 row (Xh hrow) c (XW (XO hc)),fun j c u hc hu=>?_⟩
 rw [Xw] at hc hu
 split at hc
 ·rename_i hj
  rw [if_pos hj,XH] at hu
  rw [XH] at hc
  refine h3 (i*s+(off+j)) c u ?_ ?_
  ·rw [J0 xs s h1 i row hrow (off+j) (by omega)]
   exact hc
  ·rw [← Nat.add_assoc]
   simpa using hu
 ·cases hc
theorem Zbk {P:Program} {o:Oper} {σ:Nat→AV} {T e:TypeId} {a:Operand} {d q i off:Nat} {xs:List (List AV)} {row:List AV} (ho:o.op = .load T a) (hT:ZS P T=Xa Xb)
  (ha:Zn P σ a = .eref d q (i*P.cellsOf e+off)) (hd:Zp (σ d) q=Xa (e,xs)) (hrow:xs[i]? = Xa row) (hn:off+P.cellsOf T≤P.cellsOf e) (hnm:Zj P e=Xc):Jg P o σ (.agg ((row.drop off).take (P.cellsOf T))) [] [d]:=by
 refine Zt [d] rfl fun c hc σ' tm w lim X hg hfp hsim=>?_
 rw [ho] at hg
 have hv:=JF hc hsim ha (hg a (by simp [Op.operands]))
 have hd':Zp (σ' d) q=Xa (e,xs):=by rw [hfp d (by simp),hd]
 rw [← hc] at hv
 obtain ⟨b,arr,cap,g1,g2,g3,g4,g5,g6,g7,g8,g9,g10⟩:=Zfw hsim hd' hv (by rw [hc];exact hnm)
 rw [hc] at g2 g7 g8
 obtain ⟨k1,k2,k3,k4⟩:=Zj4 (off:=off) (n:=P.cellsOf T) g8 g9 g10 g7 g5 hrow hn
 refine ⟨.agg ((arr.toList.drop (i*P.cellsOf e+off)).take (P.cellsOf T)).toArray,?_,?_⟩
 ·have:=JW (w:=w) (b:=b) (off:=i*P.cellsOf e+off) hT k1 (fun j u hj=>by
   rw [Zh g3]
   rw [Xw] at hj
   split at hj
   ·simpa using hj
   ·cases hj)
  simp [execOp,ho,g2,this]
 ·exact .agg (by rw [k1,k2]) k3 k4
theorem ZaA {P:Program} {o:Oper} {σ:Nat→AV} {T e:TypeId} {a:Operand} {d q i off:Nat} {xs:List (List AV)} {row:List AV} {x:AV} (ho:o.op = .load T a) (hT:ZS P T=Xa Xc)
  (ha:Zn P σ a = .eref d q (i*P.cellsOf e+off)) (hd:Zp (σ d) q=Xa (e,xs)) (hrow:xs[i]? = Xa row) (hn:off+1≤P.cellsOf e) (hx:row[off]? = Xa x) (hnm:Zj P e=Xc):Jg P o σ x [] [d]:=by
 intro c hc σ' tm w lim X hid hag hsim next Q hnx
 have hg:Zn P σ' a=Zn P σ a:=Zw fun t ht=>hid t (by simp [Zo (o:=o) (x:=a) (by rw [ho];simp [Op.operands]) ht])
 have hv:=JF hc hsim ha hg
 have hd':Zp (σ' d) q=Xa (e,xs):=by rw [hag d (by simp),hd]
 rw [← hc] at hv
 obtain ⟨b,arr,cap,g1,g2,g3,g4,g5,g6,g7,g8,g9,g10⟩:=Zfw hsim hd' hv (by rw [hc];exact hnm)
 rw [hc] at g2 g7 g8
 obtain ⟨k1,k2,k3,k4⟩:=Zj4 (off:=off) (n:=1) g8 g9 g10 g7 g5 hrow hn
 have e1:(row.drop off).take 1 = [x]:=by rw [List.take_one,List.head?_drop,hx];rfl
 obtain ⟨u,hu⟩:∃ u,(arr.toList.drop (i*P.cellsOf e+off)).take 1 = [u]:=List.length_eq_one_iff.1 k1
 rw [e1] at k3 k4
 rw [hu] at k4
 have hcell:w.cell? ⟨b,i*P.cellsOf e+off,Xe⟩=Xa u:=by
  rw [Zh g3]
  have h1:((arr.toList.drop (i*P.cellsOf e+off)).take 1)[0]? = Xa u:=by rw [hu];rfl
  rw [Xw,if_pos (by omega),XH] at h1
  simpa using h1
 obtain ⟨p1,p2⟩:=Kc (P:=P) (X:=X) (σ:=σ') (k:=0) (k3 x (by simp)) (k4 0 x u rfl rfl)
 refine Zi (v:=u) ?_ (hnx u w (Zq hsim p1 (k:=0) (by rw [hc];exact p2)))
 simp [execOp,ho,g2,Jw hT hcell]
theorem ZcV {P:Program} {o:Oper} {σ:Nat→AV} {T e:TypeId} {a x:Operand} {d q i off:Nat} {xs:List (List AV)} {vc vc':List AV} {y:AV} (ho:o.op = .store T a x) (ha:Zn P σ a = .eref d q (i*P.cellsOf e+off)) (hd:Zp (σ d) q=Xa (e,xs)) (hng:(σ d).isG=Xc)
  (hx:Zn P σ x=y) (hy:y.cells? = Xa vc) (hn:vc.length=P.cellsOf T) (h0:P.cellsOf T≠0) (hi:i < xs.length) (hfit:off+P.cellsOf T≤P.cellsOf e)
  (hw:vc'.length=vc.length∧∀ (w:World) (lim:Lm) (us:List Value),JJ w lim vc us→JJ w lim vc' us) (hnm:Zj P e=Xc) :
  Jg P o σ .dead [(d,Zm (σ d) q Xb e (ZC xs i off vc'))] [d]:=by
 intro c hc σ' tm w lim X hid hag hsim next Q hnx
 have hga:Zn P σ' a=Zn P σ a:=Zw fun t ht=>hid t (by simp [Zo (o:=o) (x:=a) (by rw [ho];simp [Op.operands]) ht])
 have hgx:Zn P σ' x=Zn P σ x:=Zw fun t ht=>hid t (by simp [Zo (o:=o) (x:=x) (by rw [ho];simp [Op.operands]) ht])
 have hsd:σ' d=σ d:=hag d (by simp)
 have hd':Zp (σ' d) q=Xa (e,xs):=by rw [hsd,hd]
 have hva:=JF hc hsim ha hga
 rw [← hc] at hva
 obtain ⟨us,h4,h5⟩:=KM hy (JF hc hsim hx hgx)
 obtain ⟨b,arr,cap,g1,h3,g3,g4,g6,g7,g8,g9,g10,g11⟩:=Zfw hsim hd' hva (by rw [hc];exact hnm)
 rw [hc] at g8 g9 h3
 obtain ⟨inf,hinf⟩:=Zr h0
 have h5':=hw.2 w lim us h5
 have hlen:us.length=P.cellsOf T:=by rw [← h5.1,hn]
 have hmul:i*P.cellsOf e+P.cellsOf e≤xs.length*P.cellsOf e:=by
  rw [← X9];exact XN _ hi
 have hcap:xs.length*P.cellsOf e≤cap*P.cellsOf e:=XN _ g6
 have hmem:=Yw (i:=i) g9 g10 (by rw [hw.1,hn];exact hfit) h5'.2.1
 have hst:=JY (P:=P) (T:=T) (w:=w) (b:=b) (off:=i*P.cellsOf e+off) (v:=Act.eval ⟨tm,[]⟩ x) hinf h4 hlen g3 (by rw [hlen,g8];omega) (fun u hu=>by
  obtain ⟨j,hj⟩:=XK.1 hu
  have hlt:j < vc.length:=by rw [h5.1];exact (Xi.1 hj).1
  exact (h5.2.2 j _ u (Xp hlt) hj).oneCell (h5.2.1 _ (Wl hlt)))
 obtain ⟨X',hset⟩:=hsim.setPlace (xs':=ZC xs i off vc') (arr':=(arr.toList.take (i*P.cellsOf e+off)++us++arr.toList.drop (i*P.cellsOf e+off+us.length)).toArray) hd' (by rw [hsd];exact hng) g1 g3
  (by simp [g8];omega) (by simp [ZC]) (fun x hx=>by rw [hc];exact (hmem x hx).1) (fun x hx=>(hmem x hx).2) (fun j z u hz hu=>by
   rw [JD g9 (by omega) (by rw [hw.1,hn];exact hfit)] at hz
   refine Zgk (R:=Rep w lim) (us:=arr.toList) (fun j z u hz hu=>g11 j z u hz (by simpa using hu)) h5'.2.2 (by rw [hw.1,h5.1]) ?_ ?_ j z u hz (by simpa using hu)
   ·rw [Zg xs _ g9];omega
   ·simp [g8];omega)
 rw [hsd] at hset
 refine JA (w':=w.setRow b (arr.toList.take (i*P.cellsOf e+off)++us++arr.toList.drop (i*P.cellsOf e+off+us.length)).toArray) ?_ (hnx undef _ ?_)
 ·simp only [execOp,ho,h3,Sem.run_bind,hst,Result.andThen_ok,Sem.run_pure]
 ·exact Zq hset rfl (k:=0) trivial
theorem ZfD {P:Program} {o:Oper} {σ:Nat→AV} {cl:Call} {x:Operand} {T el e:TypeId} {d q:Nat} {xs:List (List AV)} (ho:o.op = .call cl) (hcl:cl.callee = .builtin .len)
  (hargs:cl.args.toList = [x]) (hts:cl.argTypes.toList = [T]) (hT:P.underlying T=Xa (.slice el)) (hx:Zn P σ x = .mref d q) (hd:Zp (σ d) q=Xa (e,xs)) (hnm:Zj P e=Xc∨Ze P e=Xb):Jg P o σ (.val (.int .i64 xs.length)) [] [d]:=by
 have hargs':cl.args = #[x]:=by apply XG.1;rw [hargs]
 have hts':cl.argTypes = #[T]:=by apply XG.1;rw [hts]
 refine Zt [d] rfl fun c hc σ' tm w lim X hg hfp hsim=>⟨.int .i64 xs.length,?_,.val rfl⟩
 rw [ho] at hg
 have hv:=JF hc hsim hx (hg x (by simp [Op.operands,Call.operands,hargs',hcl]))
 have hd':Zp (σ' d) q=Xa (e,xs):=by rw [hfp d (by simp),hd]
 rw [← hc] at hv
 have hform:∃ a cap,Act.eval ⟨tm,[]⟩ x = .slice a xs.length cap:=by
  rcases Zeg hsim hd' hv (by rw [hc];exact hnm) with ⟨rfl,h | ⟨a,h⟩⟩ | ⟨b,arr,cap,cap',g1,g2,g3⟩
  ·exact ⟨_,_,h⟩
  ·exact ⟨_,_,h⟩
  ·exact ⟨_,_,g2⟩
 obtain ⟨a,cap,g2⟩:=hform
 simp [execOp,ho,hcl,resolve,hargs',hts',invoke,builtin,Builtin.len_,g2,run_underlying hT,goInt]
theorem ZkD {P:Program} {w:World} {lim:Lm} {f:Bool} {ys:List (List AV)} {v:Value} (n:Nat) (h:Rep w lim (.slice f 1 ys) v) :
  (v = .slice Xe 0 0∧ys = [])∨∃ (a:Addr) (sLen sCap:Nat) (cs:List Value),v = .slice (Xa a) sLen sCap∧cs.length=Nat.min sLen n∧sLen=ys.length∧(∀ y∈ys,y.length=1∧∀ c∈y,c.isCell=Xb)∧(∀ j u,cs[j]? = Xa u→w.cell? (a.add j)=Xa u)∧
   (∀ u∈cs,u.oneCell'=Xb)∧∀ (j:Nat) (z:AV) (u:Value),(ys.take n).flatten[j]? = Xa z→cs[j]? = Xa u→Rep w lim z u:=by
 have key:∀ (y:AV),Rep w lim y v→y = .slice f 1 ys→(v = .slice Xe 0 0∧ys = [])∨∃ (a:Addr) (sLen sCap:Nat) (cs:List Value),v = .slice (Xa a) sLen sCap∧cs.length=Nat.min sLen n∧sLen=ys.length∧(∀ y∈ys,y.length=1∧∀ c∈y,c.isCell=Xb)∧(∀ j u,cs[j]? = Xa u→w.cell? (a.add j)=Xa u)∧
   (∀ u∈cs,u.oneCell'=Xb)∧∀ (j:Nat) (z:AV) (u:Value),(ys.take n).flatten[j]? = Xa z→cs[j]? = Xa u→Rep w lim z u:=by
  intro y hy hye
  cases hy with
  | sliceN => injection hye with h1 h2 h3; exact .inl ⟨rfl, h3.symm⟩
  | @sliceE f' s2 a cap hf =>
   injection hye with h1 h2 h3
   subst h3
   exact .inr ⟨a,0,cap,[],rfl,by simp,rfl,by simp,by simp,by simp,by simp⟩
  | @sliceC f' s2 xs b o cap us hs hc hf hle hlim hus hcell hr =>
   injection hye with h1 h2 h3
   subst h2
   subst h3
   have hfl:xs.flatten.length=us.length:=by rw [Zg xs _ hs,hus]
   refine .inr ⟨⟨b,o,Xe⟩,xs.length,cap,us.take n,rfl,?_,rfl,fun y hy=>⟨hs y hy,hc y hy⟩,fun j u hj=>?_,fun u hu=>?_,fun j z u hz hu=>?_⟩
   ·rw [XQ,hus,Uo];exact Nat.min_comm _ _
   ·rw [Xw] at hj
    split at hj
    ·rw [Jc];exact hcell j u hj
    ·cases hj
   ·obtain ⟨j,hj⟩:=XK.1 (XO hu)
    have hlt:j < xs.flatten.length:=by rw [hfl];exact (Xi.1 hj).1
    have hz:xs.flatten[j]? = Xa xs.flatten[j]:=Xp hlt
    obtain ⟨l,hl,hzl⟩:=Uw.1 (Wl hlt)
    exact (hr j _ u hz hj).oneCell (hc l hl _ hzl)
   ·rw [J4 xs n hs,Uo,Xw] at hz
    rw [Xw] at hu
    split at hz
    ·rename_i hjn
     rw [if_pos hjn] at hu
     exact hr j z u hz hu
    ·cases hz
  | val _ => cases hye
  | agg _ _ _ => cases hye
  | nest => cases hye
  | oref0 => cases hye
  | oref => cases hye
  | osl0 => cases hye
  | osl => cases hye
  | omap => cases hye
  | fnc => cases hye
  | omap0 => cases hye
  | fncN => cases hye
 exact key _ h rfl
theorem Zf7 {P:Program} {w:World} {T T' ty e:TypeId} {v u:Value} {inf:TypeInfo} (hT:P.underlying T=Xa (.slice e)) (hi:P.info? e=Xa inf) (hv:v = .slice Xe 0 0∨∃ a,v = .slice (Xa a) 0 0)
  (hu:∃ b n c,u = .slice b n c):(Builtin.copy_ #[T,T'] ty #[v,u]).run P w = .ok (goInt 0) w:=by
 obtain ⟨b,n,c,rfl⟩:=hu
 have hl:∀ a,(loadCells a 0).run P w = .ok #[] w:=fun a=>run_loadCells_list (P:=P) w a [] (fun j v hj=>by simp at hj)
 have hz:Nat.min n 0=0:=Nat.min_zero n
 rcases hv with rfl | ⟨a,rfl⟩ <;> cases b<;>simp [Builtin.copy_,run_underlying hT,Zu hi,Builtin.lenOf,Builtin.firstCells,hz,hl,storeCells]
theorem Zex {P:Program} {o:Oper} {σ:Nat→AV} {cl:Call} {T T' e:TypeId} {x y:Operand} {d q:Nat} {xs ys:List (List AV)} {f:Bool} (ho:o.op = .call cl) (hcl:cl.callee = .builtin .copy)
  (hargs:cl.args.toList = [x,y]) (hts:cl.argTypes.toList = [T,T']) (hT:P.underlying T=Xa (.slice e)) (hs:P.cellsOf e=1) (hx:Zn P σ x = .mref d q) (hd:Zp (σ d) q=Xa (e,xs)) (hng:(σ d).isG=Xc) (hy:Zn P σ y = .slice f 1 ys) (hnm:Zj P e=Xc) :
  Jg P o σ .dead [(d,Zm (σ d) q Xb e (Zp9 xs ys))] [d]:=by
 have hargs':cl.args = #[x,y]:=by apply XG.1;rw [hargs]
 have hts':cl.argTypes = #[T,T']:=by apply XG.1;rw [hts]
 intro c hc σ' tm w lim X hid hag hsim next Q hn
 subst hc
 have hgx:Zn c.P σ' x=Zn c.P σ x:=Zw fun t ht=>hid t (by simp [Zo (o:=o) (x:=x) (by rw [ho];simp [Op.operands,Call.operands,hargs',hcl]) ht])
 have hgy:Zn c.P σ' y=Zn c.P σ y:=Zw fun t ht=>hid t (by simp [Zo (o:=o) (x:=y) (by rw [ho];simp [Op.operands,Call.operands,hargs',hcl]) ht])
 have hsd:σ' d=σ d:=hag d (by simp)
 have hd':Zp (σ' d) q=Xa (e,xs):=by rw [hsd,hd]
 have hyv:Rep w lim (.slice f 1 ys) (Act.eval ⟨tm,[]⟩ y):=JF rfl hsim hy hgy
 obtain ⟨inf,hinf⟩:=Zr (P:=c.P) (T:=e) (by omega)
 have hsz:c.P.cellsOf e=inf.size:=ZH hinf
 have hs1:(c.P.info? e).map (·.size)=Xa 1:=by rw [hinf,Xo,← hsz,hs]
 have hsame:∀ xs',xs'=xs→Jm σ' [(d,Zm (σ d) q Xb e xs')]=σ':=by
  rintro xs' rfl
  funext k
  simp only [Jm,upd]
  split
  ·rename_i hk
   subst hk
   rw [hsd]
   rcases ZB hd with ⟨h1,rfl⟩ | ⟨cs,q,h1,rfl,h2⟩ | ⟨cs,q,h1,rfl,h2⟩
   case inr.inr=>rw [h1] at hng;cases hng
   ·rw [h1];rfl
   ·rw [h1]
    simp only [Zm,AV.box.injEq]
    apply Ua
    intro i
    by_cases hi:i=q
    ·subst hi
     rw [X8 (Xi.1 h2).1,h2]
    ·rw [Wg (fun h=>hi h.symm)]
  ·rfl
 rcases ZfP hsim hd' (JF rfl hsim hx hgx) hnm with ⟨rfl,hv0⟩ | ⟨b,arr,cap,cap',g1,g2,g3,g4,g6,g7,g8,g9,g10,g11⟩
 ·have hrun:=Zf7 (P:=c.P) (w:=w) (T:=T) (T':=T') (ty:=o.type) (u:=Act.eval ⟨tm,[]⟩ y) hT hinf hv0 (by
   rcases ZkD (P:=c.P) 0 hyv with ⟨h,_⟩ | ⟨a,sLen,sCap,cs,h,_⟩
   ·exact ⟨_,_,_,h⟩
   ·exact ⟨_,_,_,h⟩)
  refine Zi (v:=goInt 0) (w':=w) ?_ (hn _ w ?_)
  ·simp only [execOp,ho,resolve,hcl,hargs',hts',Wn,Xg,Xz,Sem.run_bind,Sem.run_pure,Result.andThen_ok,invoke,builtin,hrun]
  ·rw [hsame _ (by simp [Zp9])]
   exact Zq hsim rfl (k:=0) trivial
 have hf1:∀ x∈xs,x.length=1:=fun x hx=>by rw [g9 x hx,hs]
 rw [hs,Uo] at g8
 rcases ZkD (P:=c.P) xs.length hyv with ⟨hv,hnil⟩ | ⟨a,sLen,sCap,cs,hv,h1,h2,h3,h4,h5,h6⟩
 ·subst hnil
  have hrun:=run_copy_nil c.P w T T' o.type e ⟨b,0,Xe⟩ xs.length cap' hT (by rw [hs1];rfl)
  refine Zi (v:=goInt 0) (w':=w) ?_ (hn _ w ?_)
  ·simp only [execOp,ho,resolve,hcl,hargs',hts',Wn,Xg,Xz,Sem.run_bind,Sem.run_pure,Result.andThen_ok,invoke,builtin,g2,hv,hrun]
  ·rw [hsame _ (by simp [Zp9])]
   exact Zq hsim rfl (k:=0) trivial
 ·have h1':cs.length=min sLen xs.length:=h1
  have hrun:=run_copy_row c.P w T T' o.type e b 0 xs.length cap' a sLen sCap arr e cs hT hs1 g3 h1 h4 (by rw [h1',g8];omega) h5
  rw [XF] at hrun
  have hcl':cs.length≤xs.length:=by rw [h1];exact Nat.min_le_right _ _
  have e1:Zp9 xs ys=ys.take xs.length++xs.drop cs.length:=by
   unfold Zp9
   rw [h1']
   congr 1
   by_cases hle:ys.length≤xs.length
   ·rw [h2,Nat.min_eq_left hle]
   ·rw [h2,Nat.min_eq_right (by omega),Ut (by omega),Ut (by omega)]
  have hyl:(ys.take xs.length).length=cs.length:=by rw [XQ,h1',h2];exact Nat.min_comm _ _
  have hm:∀ x∈Zp9 xs ys,x.length=1∧∀ c∈x,c.isCell=Xb:=by
   rw [e1]
   intro x hx
   rcases Xt.1 hx with hx | hx
   ·exact h3 x (XO hx)
   ·exact ⟨hf1 x (XW hx),g10 x (XW hx)⟩
  have hyf:(ys.take xs.length).flatten.length=cs.length:=by rw [Zg (ys.take xs.length) 1 fun y hy=>(h3 y (XO hy)).1,hyl,Uo]
  obtain ⟨X',hset⟩:=hsim.setPlace (xs':=Zp9 xs ys) (arr':=(arr.toList.take 0++cs++arr.toList.drop cs.length).toArray) hd' (by rw [hsd];exact hng) g1 g3 (by simp;omega) (by rw [e1,XA,hyl,Ue];omega)
   (fun x hx=>by rw [hs];exact (hm x hx).1) (fun x hx=>(hm x hx).2) (fun j z u hz hu=>by
    rw [e1,Us,Vd xs cs.length hf1,Uo] at hz
    refine Zgk (R:=Rep w lim) (off:=0) (zs:=xs.flatten) (us:=arr.toList) (fun j z u hz hu=>g11 j z u hz (by simpa using hu)) h6 hyf (Wh _) (Wh _) j z u ?_ ?_
    ·rw [XF,hyf];simpa using hz
    ·rw [XF];simpa using hu)
  rw [hsd] at hset
  refine Zi (v:=goInt cs.length) (w':=w.setRow b (arr.toList.take 0++cs++arr.toList.drop cs.length).toArray) ?_ (hn _ _ (Zq hset rfl (k:=0) trivial))
  simp only [execOp,ho,resolve,hcl,hargs',hts',Wn,Xg,Xz,Sem.run_bind,Sem.run_pure,Result.andThen_ok,invoke,builtin,g2,hv,hrun]
theorem Ziz {T':Odr} {P:Program} {o:Oper} {σ:Nat→AV} {T e:TypeId} {x y:Operand} {d:Nat} {xs:List (List AV)} {k:IntKind} {h:Nat} {us:List (Nat×AV)} (ho:o.op = .slice T x Xe (Xa y) Xe) (hT:P.underlying T=Xa (.slice e)) (hs0:P.cellsOf e≠0)
  (hx:Zn P σ x = .mref d 0) (hd:σ d = .own Xb e xs) (hy:Zn P σ y = .val (.int k h)) (hh:h≤xs.length) (hus:Yc T' σ d us) (hnm:Zj P e=Xc) :
  Yz T' P o σ (.own Xb e (xs.take h)) ((d,KX P Xb e xs)::us) [d]:=by
 intro c hc σ' tm w lim X hid hag hTx hsim next Q hn
 have hgx:Zn P σ' x=Zn P σ x:=Zw fun t ht=>hid t (by simp [Zo (o:=o) (x:=x) (by rw [ho];simp [Op.operands]) ht])
 have hgy:Zn P σ' y=Zn P σ y:=Zw fun t ht=>hid t (by simp [Zo (o:=o) (x:=y) (by rw [ho];simp [Op.operands]) ht])
 have hd':σ' d = .own Xb e xs:=by rw [hag d (by simp),hd]
 have hv:=JF hc hsim hx hgx
 have hyv:=ZP hc hsim hy hgy
 rw [← hc] at hv
 obtain ⟨X1,k1,k2,k3,_⟩:=hsim.freeAll (us:=us) hd' (.inr (hus.all hTx))
 rw [hc] at k1
 obtain ⟨inf,hinf⟩:=Zr hs0
 have hat:Zp (σ' d) 0=Xa (e,xs):=by rw [hd'];rfl
 rcases ZfP hsim hat hv (by rw [hc];exact hnm) with ⟨rfl,hform⟩ | ⟨b,arr,cap,cap',g1,g2,g3,g4,g5,g6,g7,g8,g9,g10⟩
 ·have hh0:h=0:=by simpa using hh
  subst hh0
  rcases hform with hf | ⟨a,hf⟩
  ·refine Zi (v:=.slice Xe 0 0) (w':=w) ?_ (hn _ w (ZT (ob:=Xe) k1 (.inl ⟨[],World.ownsRow_nil _ 0 e _,rfl,by simp,by simp,by simp,by simp⟩) (by simp) (fun _=>.none rfl) fun _ _ b hb=>by cases hb))
   simp [execOp,ho,hf,hyv,Instr.sliceAt,Instr.slice,Instr.sliceBounds,Instr.sliceBound,asIntOf,run_underlying hT,Zu hinf]
  ·refine Zi (v:=.slice (Xa a) 0 0) (w':=w) ?_ (hn _ w (ZT (ob:=Xe) k1 (.inr (.inl ⟨rfl,rfl,a,rfl⟩)) (by simp) (fun _=>.none rfl) fun _ _ b hb=>by cases hb))
   simp [execOp,ho,hf,hyv,Instr.sliceAt,Instr.slice,Instr.sliceBounds,Instr.sliceBound,asIntOf,run_underlying hT,Zu hinf]
 ·have hsz:P.cellsOf e=inf.size:=ZH hinf
  have hle:xs.length≤cap':=by
   obtain ⟨e2,xs2,m1,m2⟩:=hv
   rw [hat] at m1
   simp only [Xf,Xn] at m1
   obtain ⟨rfl,rfl⟩:=m1
   rcases m2.noMap (by rw [hc];exact hnm) with ⟨m2,_⟩ | ⟨b',arr',cap2,m2,m3,m4,m5⟩
   ·rw [g1] at m2;cases m2
   ·rw [g1] at m2
    have hb:b=b':=Xr m2
    subst hb
    rw [g3] at m3
    simp only [Xf,Obj.cells.injEq,and_true] at m3
    subst m3
    rw [g2] at m5
    simp only [Value.slice.injEq] at m5
    have hcap:cap2=cap:=Tm (by rw [hc];omega) (m4.symm.trans g7)
    omega
  have hce:cap'=cap:=by
   obtain ⟨e2,xs2,m1,m2⟩:=hv
   rw [hat] at m1
   simp only [Xf,Xn] at m1
   obtain ⟨rfl,rfl⟩:=m1
   rcases m2.noMap (by rw [hc];exact hnm) with ⟨m2,_⟩ | ⟨b',arr',cap2,m2,m3,m4,m5⟩
   ·rw [g1] at m2;cases m2
   ·rw [g1] at m2
    have hb:b=b':=Xr m2
    subst hb
    rw [g3] at m3
    simp only [Xf,Obj.cells.injEq,and_true] at m3
    subst m3
    rw [g2] at m5
    simp only [Value.slice.injEq] at m5
    have hcap:cap2=cap:=Tm (by rw [hc];omega) (m4.symm.trans g7)
    omega
  subst hce
  have hlt:(xs.take h).length=h:=by rw [XQ];omega
  have key:ZV c.P w lim Xb e (xs.take h) (.slice (Xa ⟨b,0,Xe⟩) (xs.take h).length cap') (Xa b):=
   ZdG g3 g4 (by omega) g6 g7 (fun x hx=>g8 x (XO hx)) (fun x hx=>g9 x (XO hx)) fun j z u hz hu=>g10 j z u (by
    rw [J4 xs h g8,Xw] at hz
    split at hz
    ·exact hz
    ·cases hz) hu
  rw [hlt] at key
  refine Zi (v:=.slice (Xa ⟨b,0,Xe⟩) h cap') (w':=w) ?_ (hn _ w (ZT k1 key (fun b' hb'=>?_) (fun _=>.noMap (by rw [hc];exact hnm)) fun _ hd=>by rw [hc,ZL hnm] at hd;cases hd))
  ·have b1:h≤cap':=by omega
   simp [execOp,ho,g2,hyv,Instr.sliceAt,Instr.slice,Instr.sliceBounds,Instr.sliceBound,asIntOf,run_underlying hT,Zu hinf,b1,Jc]
  ·exact k3 b' (g1.trans hb')
theorem Zoa {c:Ctx} {σ:Nat→AV} {tm:Array Value} {w:World} {lim:Lm} {X:Nat→Nat→Option Nat} (h:Sim c σ tm w lim X) {d q k:Nat} {e:TypeId} {xs:List (List AV)} {v:Value}
  (hd:Zp (σ d) q=Xa (e,xs)) (hv:ZQ c.P w lim X σ k (.mref d q) v) (hnm:Zj c.P e=Xc):RdS w lim (c.P.cellsOf e) xs v:=by
 rcases ZfP h hd hv hnm with ⟨h1,h2 | ⟨a,h2⟩⟩ | ⟨b,arr,cap,cap',g1,g2,g3,g4,g5,g6,g7,g8,g9,g10⟩
 ·exact .inl ⟨h1,_,_,h2⟩
 ·exact .inl ⟨h1,_,_,h2⟩
 ·have hal:arr.toList.length=cap*c.P.cellsOf e:=by simpa using g7
  have hle:xs.length*c.P.cellsOf e≤arr.toList.length:=by rw [hal];exact XN _ g5
  refine .inr ⟨b,0,cap',arr.toList.take (xs.length*c.P.cellsOf e),g2,g8,g9,by rw [XQ];omega,fun j u hj=>?_,fun j z u hz hu=>?_⟩
  ·rw [Xw] at hj
   split at hj
   ·rw [XF,Zh g3]
    simpa using hj
   ·cases hj
  ·rw [Xw] at hu
   split at hu
   ·exact g10 j z u hz (by simpa using hu)
   ·cases hu
theorem ZdX {P:Program} {o:Oper} {σ:Nat→AV} {T e:TypeId} {x y z:Operand} {d q s:Nat} {k k':IntKind} (ho:o.op = .slice T x Xe (Xa y) (Xa z))
  (hT:P.underlying T=Xa (.slice e)) (hs0:P.cellsOf e≠0) (hx:Zn P σ x = .mref d q) (hy:Zn P σ y = .val (.int k 0)) (hz:Zn P σ z = .val (.int k' 0)) {e':TypeId} {xs':List (List AV)} (hd:Zp (σ d) q=Xa (e',xs')) (hnm:Zj P e'=Xc):Jg P o σ (.slice Xb s []) [] [d]:=by
 refine Zt [d] rfl fun c hc σ' tm w lim X hg hfp hsim=>?_
 rw [ho] at hg
 have hv:=JF hc hsim hx (hg x (by simp [Op.operands]))
 have hy':=ZP hc hsim hy (hg y (by simp [Op.operands]))
 have hz':=ZP hc hsim hz (hg z (by simp [Op.operands]))
 obtain ⟨inf,hinf⟩:=Zr hs0
 generalize hu:Act.eval ⟨tm,[]⟩ x=u at hv
 obtain ⟨e2,xs,he2,hv⟩:=hv
 rw [hfp d (by simp),hd] at he2
 simp only [Xf,Xn] at he2
 obtain ⟨rfl,rfl⟩:=he2
 rcases hv.noMap hnm with ⟨_,_,rfl | ⟨a,rfl⟩⟩ | ⟨b,arr,cap,_,_,_,rfl⟩
 ·refine ⟨.slice Xe 0 0,?_,.sliceN⟩
  simp [execOp,ho,hu,hy',hz',Instr.sliceAt,Instr.slice,Instr.sliceBounds,Instr.sliceBound,asIntOf,run_underlying hT,Zu hinf]
 ·refine ⟨.slice (Xa a) 0 0,?_,.sliceE (fun _=>rfl)⟩
  simp [execOp,ho,hu,hy',hz',Instr.sliceAt,Instr.slice,Instr.sliceBounds,Instr.sliceBound,asIntOf,run_underlying hT,Zu hinf]
 ·refine ⟨.slice (Xa ⟨b,0,Xe⟩) 0 0,?_,.sliceE (fun _=>rfl)⟩
  simp [execOp,ho,hu,hy',hz',Instr.sliceAt,Instr.slice,Instr.sliceBounds,Instr.sliceBound,asIntOf,run_underlying hT,Zu hinf]
theorem V2 {P:Program} {o:Oper} {σ:Nat→AV} (ex:Bool) {cl:Call} {T e:TypeId} {i:TypeInfo} {z:Value} {x y:Operand} {d q:Nat} {ys:List (List AV)} {s:Nat} (ho:o.op = .call cl) (hcl:cl.callee = .builtin .append)
  (hargs:cl.args.toList = [x,y]) (hts:cl.argTypes.toList = [T,T]) (hT:P.underlying T=Xa (.slice e)) (hi:P.info? e=Xa i) (hz:i.zero=Xa z) (hzs:z.cells.size=i.size)
  (hx:Zn P σ x = .slice Xb s []) (hy:Zn P σ y = .mref d q) (hd:Zp (σ d) q=Xa (e,ys)) (hroom:(([] : List (List AV)).length+ys.length)*(i.bytes+1)≤ZZ) (hnm:Zj P e=Xc) :
  Jg P o σ (.own ex e ys) [] [d]:=by
 have hargs':cl.args = #[x,y]:=by apply XG.1;rw [hargs]
 have hts':cl.argTypes = #[T,T]:=by apply XG.1;rw [hts]
 intro c hc σ' tm w lim X hid hag hsim next Q hn
 have hgx:Zn P σ' x=Zn P σ x:=Zw fun t ht=>hid t (by simp [Zo (o:=o) (x:=x) (by rw [ho];simp [Op.operands,Call.operands,hargs',hcl]) ht])
 have hgy:Zn P σ' y=Zn P σ y:=Zw fun t ht=>hid t (by simp [Zo (o:=o) (x:=y) (by rw [ho];simp [Op.operands,Call.operands,hargs',hcl]) ht])
 have hxv:ZV P w lim ex e [] (Act.eval ⟨tm,[]⟩ x) Xe:=WJ (s:=s) (JF hc hsim hx hgx)
 have hd':Zp (σ' d) q=Xa (e,ys):=by rw [hag d (by simp),hd]
 have hyv:RdS w lim (P.cellsOf e) ys (Act.eval ⟨tm,[]⟩ y):=by
  have hv:=JF hc hsim hy hgy
  rw [← hc] at hv ⊢
  exact Zoa hsim hd' hv (by rw [hc];exact hnm)
 obtain ⟨v',w',lim',ob',r1,r2,r3,r4⟩:=Y9 (ty:=o.type) hT hi hz hzs hxv hyv hroom hnm
 have hw:=hsim.world r3 fun b hb=>by cases hb
 refine Zi (v:=v') (w':=w') ?_ (hn _ w' ?_)
 ·simp only [execOp,ho,resolve,hcl,hargs',hts',Wn,Xg,Xz,Sem.run_bind,Sem.run_pure,Result.andThen_ok,invoke,builtin,r1]
 ·rw [← hc,XX] at r2
  refine ZT hw r2 (fun b hb=>?_) (fun _=>.noMap (by rw [hc];exact hnm)) fun _ hd=>by rw [hc,ZL hnm] at hd;cases hd
  rcases r4 with r4 | r4
  ·rw [r4] at hb;cases hb
  ·rw [r4] at hb
   simp only [Xf] at hb
   subst hb
   exact ⟨.inr hsim.frm.size,fun i j=>Yi hsim i j⟩
theorem W1 {T':Odr} {P:Program} {o:Oper} {σ:Nat→AV} {cl:Call} {T e:TypeId} {i:TypeInfo} {z:Value} {t:Nat} {y:Operand} {x:Bool} {xs ys:List (List AV)} {us:List (Nat×AV)} {d q:Nat} (ho:o.op = .call cl) (hcl:cl.callee = .builtin .append)
  (hargs:cl.args.toList = [.tmp t,y]) (hts:cl.argTypes.toList = [T,T]) (hT:P.underlying T=Xa (.slice e)) (hi:P.info? e=Xa i) (hz:i.zero=Xa z) (hzs:z.cells.size=i.size)
  (ht:σ t = .own x e xs) (hy:Zn P σ y = .mref d q) (hd:Zp (σ d) q=Xa (e,ys)) (hroom:(xs.length+ys.length)*(i.bytes+1)≤ZZ) (hus:(x=Xc∧us = [])∨Yc T' σ t us) (hnm:Zj P e=Xc) :
  Yz T' P o σ (.own x e (xs++ys)) ((t,KX P x e xs)::us) [d]:=by
 have hargs':cl.args = #[.tmp t,y]:=by apply XG.1;rw [hargs]
 have hts':cl.argTypes = #[T,T]:=by apply XG.1;rw [hts]
 intro c hc σ' tm w lim X hid hag hTx hsim next Q hn
 have hgy:Zn P σ' y=Zn P σ y:=Zw fun t ht=>hid t (by simp [Zo (o:=o) (x:=y) (by rw [ho];simp [Op.operands,Call.operands,hargs',hcl]) ht])
 have ht':σ' t = .own x e xs:=by rw [hag t (by simp),ht]
 obtain ⟨X1,h1,h2,h3,_⟩:=hsim.freeAll (us:=us) ht' (hus.imp id fun h=>h.all hTx)
 have hd':Zp (σ' d) q=Xa (e,ys):=by rw [hag d (by simp),hd]
 have hyv:RdS w lim (P.cellsOf e) ys (Act.eval ⟨tm,[]⟩ y):=by
  have hv:=JF hc hsim hy hgy
  rw [← hc] at hv ⊢
  exact Zoa hsim hd' hv (by rw [hc];exact hnm)
 rw [hc] at h2
 obtain ⟨v',w',lim',ob',r1,r2,r3,r4⟩:=Y9 (ty:=o.type) hT hi hz hzs h2 hyv hroom hnm
 have hw:=h1.world r3 h3
 refine Zi (v:=v') (w':=w') ?_ (hn _ w' ?_)
 ·have hev:Act.eval ⟨tm,[]⟩ (.tmp t)=tm.getD t undef:=rfl
  simp only [execOp,ho,resolve,hcl,hargs',hts',Wn,Xg,Xz,Sem.run_bind,Sem.run_pure,Result.andThen_ok,invoke,builtin,hev,r1]
 ·rw [hc] at hw
  rw [← hc] at r2
  refine ZT hw r2 (fun b hb=>?_) (fun _=>.noMap (by rw [hc];exact hnm)) fun _ hd=>by rw [hc,ZL hnm] at hd;cases hd
  rcases r4 with r4 | r4
  ·rw [r4] at hb;exact h3 b hb
  ·rw [r4] at hb
   simp only [Xf] at hb
   subst hb
   exact ⟨.inr hsim.frm.size,fun i j=>Yi h1 i j⟩
theorem Kh {P:Program} {w:World} {T ty e:TypeId} {a:Option Addr} {c:Nat} (hT:P.underlying T=Xa (.slice e)):(Builtin.clear_ #[T] ty #[.slice a 0 c]).run P w = .ok (.tuple #[]) w:=by
 cases a<;>simp [Builtin.clear_,run_underlying hT]
theorem ZaH {P:Program} {w:World} {T ty e t:TypeId} {inf:TypeInfo} {z:Value} {b o n c:Nat} {arr:Array Value} (hT:P.underlying T=Xa (.slice e)) (hi:P.info? e=Xa inf) (hz:inf.zero=Xa z) (hg:w.heap[b]? = Xa (.cells arr t (0,0)))
  (hfit:o+(n+1)*z.cells.size≤arr.size) (h1:∀ v∈z.cells.toList,v.oneCell'=Xb) :
  (Builtin.clear_ #[T] ty #[.slice (Xa ⟨b,o,Xe⟩) (n+1) c]).run P w =
   .ok (.tuple #[]) (w.setRow b (arr.toList.take o++(Xm (n+1) z.cells.toList).flatten++arr.toList.drop (o+(n+1)*z.cells.size)).toArray):=by
 have hrep:=replicate_zero z.cells.toList (n+1)
 rw [Ui] at hrep
 have hzc:(Builtin.zeroCells z.cells (n+1)).toList=(Xm (n+1) z.cells.toList).flatten:=by
  have:Builtin.zeroCells z.cells (n+1)=madeCells z.cells ((n+1)*z.cells.toList.length):=by simp [Builtin.zeroCells,madeCells]
  rw [this]
  have h2:madeCells z.cells ((n+1)*z.cells.toList.length)=((Xm (n+1) z.cells.toList).flatten).toArray:=hrep
  rw [h2]
 have hlen:((Xm (n+1) z.cells.toList).flatten).length=(n+1)*z.cells.size:=by simp
 have hst:=run_storeCells_at P b o t ((Xm (n+1) z.cells.toList).flatten) 0 arr w hg (by rw [hlen];exact hfit) (fun v hv=>by
  obtain ⟨l,hl,hv⟩:=Uw.1 hv
  rw [(Wd.1 hl).2] at hv
  exact h1 v hv)
 rw [Wq,hlen] at hst
 simp [Builtin.clear_,run_underlying hT,zeroValue,typeInfo,run_program,hi,hz,hzc,hst]
theorem Sim.clear {c:Ctx} {σ:Nat→AV} {tm:Array Value} {w:World} {lim:Lm} {X:Nat→Nat→Option Nat} (h:Sim c σ tm w lim X) {x n:Nat} {T e:TypeId} {inf:TypeInfo} {z:Value} {zc:List AV} {xs:List (List AV)} (hx:σ x = .own Xb e xs)
  (hT:c.P.underlying T=Xa (.slice e)) (hi:c.P.info? e=Xa inf) (hz:inf.zero=Xa z) (hzs:z.cells.size=inf.size) (h0:0 < inf.size) (hzr:∀ (w:World) (lim:Lm),JJ w lim zc z.cells.toList) (h1z:∀ v∈z.cells.toList,v.oneCell'=Xb) (hn:n≤xs.length) (hnm:Zj c.P e=Xc) :
  ∃ v2 w' X',(Instr.sliceAt T (tm.getD x undef) (Xa (.int .i64 n)) Xe Xe).run c.P w = .ok v2 w∧(∀ ty,(Builtin.clear_ #[T] ty #[v2]).run c.P w = .ok (.tuple #[]) w')∧
   Sim c (upd σ x (.own Xb e (xs.take n++Xm (xs.length-n) zc))) tm w' lim X'∧xs.length≤maxLen:=by
 have hk:c.P.cellsOf e=inf.size:=ZH hi
 have hrel:=h.rel x
 rw [hx] at hrel
 have hrel:ZV c.P w lim Xb e xs (tm.getD x undef) (X x 0):=hrel
 have same:∀ ys,ys=xs→upd σ x (.own Xb e ys)=σ:=by
  rintro ys rfl
  funext i
  by_cases hi:i=x
  ·subst hi;rw [Zs,hx]
  ·rw [Zb σ _ hi]
 have hsz:∀ w,(sizeOf e).run c.P w = .ok inf.size w:=fun w=>by rw [Zu hi,hk]
 cases hX:X x 0 with
 | none =>
  rw [hX] at hrel
  have hform:∃ base,tm.getD x undef = .slice base 0 0∧xs = []:=by
   rcases hrel.noMap hnm with ⟨us,hr,hob,_⟩ | ⟨hxs,_,a,hv⟩
   ·rcases hr.2 with ⟨hv,hl⟩ | ⟨g,cap,cur,hv,_⟩
    ·exact ⟨Xe,hv,XY hl⟩
    ·rw [hv] at hob;cases hob
   ·exact ⟨_,hv,hxs⟩
  obtain ⟨base,hv,rfl⟩:=hform
  have hn0:n=0:=by simpa using hn
  subst hn0
  refine ⟨.slice base 0 0,w,X,?_,fun ty=>Kh hT,by rw [same _ (by simp)];exact h,by simp⟩
  rw [hv]
  cases base<;>simp [Instr.sliceAt,Instr.slice,Instr.sliceBounds,Instr.sliceBound,asIntOf,run_underlying hT,hsz]
 | some b =>
  rw [hX] at hrel
  obtain ⟨arr,cap,hv,hg,hl,hle,hcm,hcs,hxl,hxc,hxr⟩:=Va hrel (.inl hnm)
  rw [hk] at hcs hxl
  have hnc:n≤cap:=by omega
  have hzl:z.cells.toList.length=inf.size:=by rw [← hzs];simp
  have hslice:(Instr.sliceAt T (tm.getD x undef) (Xa (.int .i64 n)) Xe Xe).run c.P w = .ok (.slice (if cap=n then Xa ⟨b,0,Xe⟩ else Xa ⟨b,n*inf.size,Xe⟩) (xs.length-n) (cap-n)) w:=by
   rw [hv]
   have q1:n≤xs.length:=hn
   simp [Instr.sliceAt,Instr.slice,Instr.sliceBounds,Instr.sliceBound,asIntOf,run_underlying hT,hsz,q1,hnc,hle,Jc]
  by_cases hend:n=xs.length
  ·refine ⟨_,w,X,hslice,fun ty=>?_,by rw [same _ (by rw [hend];simp)];exact h,by omega⟩
   rw [hend,Nat.sub_self]
   exact Kh hT
  ·have hcn:¬ cap=n:=by omega
   obtain ⟨p,hp⟩:∃ p,xs.length-n=p+1:=⟨xs.length-n-1,by omega⟩
   have m1:n*inf.size+(p+1)*inf.size≤cap*inf.size:=by
    rw [← Wb]
    exact XN _ (by omega)
   rw [if_neg hcn,hp] at hslice
   have hclr:=fun ty=>ZaH (P:=c.P) (w:=w) (ty:=ty) (o:=n*inf.size) (n:=p) (c:=cap-n) hT hi hz hg (by rw [hzs,hcs];exact m1) h1z
   have hal:arr.toList.length=cap*inf.size:=by simpa using hcs
   have hfl:((Xm (p+1) z.cells.toList).flatten).length=(p+1)*inf.size:=by simp [hzl,← hzs]
   obtain ⟨arr',harr⟩:∃ arr',arr'=(arr.toList.take (n*inf.size)++(Xm (p+1) z.cells.toList).flatten++arr.toList.drop (n*inf.size+(p+1)*z.cells.size)).toArray:=⟨_,rfl⟩
   have hrl:=J1 (hzr w lim) (p+1)
   have hxf:xs.flatten.length=xs.length*inf.size:=Zg xs _ hxl
   have hnx:n*inf.size≤xs.length*inf.size:=XN _ hn
   obtain ⟨X',hs⟩:=h.setPlace (d:=x) (k:=0) (b:=b) (e:=e) (xs:=xs) (xs':=xs.take n++Xm (p+1) zc) (arr:=arr) (arr':=arr') (by rw [hx];rfl) (by rw [hx];rfl) hX hg
    (by
     rw [harr,Uu,XA,XA,hfl,XQ,Ue,hal,hzs,hcs]
     omega)
    (by rw [XA,XQ,UO];omega)
    (fun y hy=>by
     rw [hk]
     rcases Xt.1 hy with hy | hy
     ·exact hxl y (XO hy)
     ·rw [(Wd.1 hy).2,(hzr w lim).1,hzl])
    (fun y hy=>by
     rcases Xt.1 hy with hy | hy
     ·exact hxc y (XO hy)
     ·rw [(Wd.1 hy).2]
      exact (hzr w lim).2.1)
    (fun j y u hy hu=>by
     rw [harr,Tc,Xu] at hu
     rw [Us,J4 xs n hxl] at hy
     have hln:(xs.flatten.take (n*inf.size)).length=n*inf.size:=by rw [XQ,hxf];omega
     have hla:(arr.toList.take (n*inf.size)).length=n*inf.size:=by rw [XQ,hal];omega
     by_cases hj:j < n*inf.size
     ·rw [Xv (by omega),Xw,if_pos hj] at hy
      rw [Xv (by omega),Xw,if_pos hj] at hu
      exact hxr j y u hy (by simpa using hu)
     ·rw [Xy (by omega),hln] at hy
      rw [Xy (by omega),hla] at hu
      have hjl:=(Xi.1 hy).1
      have hfz:((Xm (p+1) zc).flatten).length=(p+1)*inf.size:=by simp [(hzr w lim).1,hzl,← hzs]
      rw [hfz] at hjl
      rw [Xv (by rw [hfl];exact hjl)] at hu
      exact hrl.2.2 _ y u hy hu)
   refine ⟨_,_,X',hslice,hclr,?_,by omega⟩
   rw [← harr,hp]
   rw [hx] at hs
   exact hs
open Go.MapKept
open Go.RowKit (Below Below.refl)
theorem Jo (k:Int):IsKey (.int .i64) (.int .i64 k):=rfl
theorem ZaX (z:Int) (c:List AV):ZM (.val (.int .i64 z)::c)=Xa z:=rfl
theorem Vg {es:Array MapEntry} {clock:Nat} {kvs:List (List AV)} (hl:es.size=kvs.length) (hs:Stamped es clock) (hr:∀ (i:Nat) (en:MapEntry) (row:List AV),es[i]? = Xa en→kvs[i]? = Xa row→∃ (z:Int) (tl:List AV),row = .val (.int .i64 z)::tl∧en.key = .int .i64 z) (k:Int) :
  (∀ x∈es.toList,IsKey (.int .i64) x.key)∧
  ((Instr.findNow (.int .i64) (.int .i64 k) es.toList 0=Xa Xe∧(∀ x∈es.toList,x.key≠.int .i64 k)∧∀ r∈kvs,ZM r≠Xa k)∨
   ∃ j en row,Instr.findNow (.int .i64) (.int .i64 k) es.toList 0=Xa (Xa (j,en.val))∧es[j]? = Xa en∧kvs[j]? = Xa row∧en.key = .int .i64 k∧ZM row=Xa k∧kvs.find? (fun r=>ZM r == Xa k)=Xa row∧∀ i r,kvs[i]? = Xa r→i≠j→ZM r≠Xa k):=by
 have hat:∀ i (hi:i < es.size),∃ row,kvs[i]? = Xa row∧∃ (z:Int) (tl:List AV),row = .val (.int .i64 z)::tl∧es[i].key = .int .i64 z:=fun i hi=>by
  have hi':i < kvs.length:=by omega
  exact ⟨kvs[i],Xp hi',hr i _ _ (XZ hi) (Xp hi')⟩
 have hkey:∀ x∈es.toList,IsKey (.int .i64) x.key:=fun x hx=>by
  obtain ⟨i,hi,rfl⟩:=Tn.1 hx
  have hi':i < es.size:=by simpa using hi
  obtain ⟨row,_,z,ys,_,h2⟩:=hat i hi'
  have:es.toList[i]=es[i]:=by simp
  rw [this,h2]
  exact rfl
 have hrk:∀ i r (hi:i < es.size),kvs[i]? = Xa r→ZM r=Xa k→es[i].key = .int .i64 k:=fun i r hi hr' hk=>by
  obtain ⟨row,h1,z,ys,h3,h2⟩:=hat i hi
  rw [h1] at hr'
  cases hr'
  rw [h3,ZaX] at hk
  cases hk
  exact h2
 refine ⟨hkey,?_⟩
 rcases findNow_spec (Jo k) es.toList 0 hkey with ⟨h1,h2⟩ | ⟨j,en,h1,h2,h3⟩
 ·refine .inl ⟨h1,h2,fun r hrm hk=>?_⟩
  obtain ⟨i,hi,rfl⟩:=Tn.1 hrm
  have hi':i < es.size:=by omega
  exact h2 es[i] (by simp) (hrk i _ hi' (Xp hi) hk)
 ·rw [XF] at h1
  have hj:es[j]? = Xa en:=by simpa using h2
  have hjl:j < es.size:=(Wa.1 hj).1
  obtain ⟨row,h4,z,ys,h5,h6⟩:=hat j hjl
  have hen:es[j]=en:=(Wa.1 hj).2
  rw [hen,h3] at h6
  cases h6
  have huniq:∀ i r,kvs[i]? = Xa r→i≠j→ZM r≠Xa k:=by
   intro i r hi hij hk
   have hil:i < es.size:=by have:=(Xi.1 hi).1;omega
   have h8:=hrk i r hil hi hk
   have hn:=hs.2.2
   rw [List.Nodup,List.pairwise_iff_getElem] at hn
   have e1:(es.toList.map (·.key))[i]'(by simpa using hil) = .int .i64 k:=by simp [h8]
   have e2:(es.toList.map (·.key))[j]'(by simpa using hjl) = .int .i64 k:=by simp [hen,h3]
   rcases Nat.lt_or_gt_of_ne hij with hlt | hlt
   ·exact hn i j (by simpa using hil) (by simpa using hjl) hlt (e1.trans e2.symm)
   ·exact hn j i (by simpa using hjl) (by simpa using hil) hlt (e2.trans e1.symm)
  refine .inr ⟨j,en,row,h1,hj,h4,h3,by rw [h5];rfl,?_,huniq⟩
  have hjk:j < kvs.length:=by omega
  have hrow:kvs[j]=row:=(Xi.1 h4).2
  have:kvs.find? (fun r=>ZM r == Xa k)=Xa kvs[j]:=by
   rw [List.find?_eq_some_iff_getElem]
   refine ⟨by rw [hrow,h5];simp [ZM],j,hjk,rfl,fun i hi=>?_⟩
   have:=huniq i kvs[i] (Xp (by omega)) (by omega)
   simpa using this
  rw [this,hrow]
theorem Zgy {P:Program} {et:TypeId} {w:World} {lim:Lm} {es:Array MapEntry} {clock:Nat} {kvs:List (List AV)} (hl:es.size=kvs.length) (hs:Stamped es clock) (hr:∀ (i:Nat) (en:MapEntry) (row:List AV),es[i]? = Xa en→kvs[i]? = Xa row→Zfe P w lim et en row) (k:Int) :
  (∀ x∈es.toList,IsKey (.int .i64) x.key)∧
  ((Instr.findNow (.int .i64) (.int .i64 k) es.toList 0=Xa Xe∧(∀ x∈es.toList,x.key≠.int .i64 k)∧∀ r∈kvs,ZM r≠Xa k)∨
   ∃ j en row,Instr.findNow (.int .i64) (.int .i64 k) es.toList 0=Xa (Xa (j,en.val))∧es[j]? = Xa en∧kvs[j]? = Xa row∧en.key = .int .i64 k∧ZM row=Xa k∧kvs.find? (fun r=>ZM r == Xa k)=Xa row∧∀ i r,kvs[i]? = Xa r→i≠j→ZM r≠Xa k):=
 Vg hl hs (fun i en row h1 h2=>by obtain ⟨z,ys,g1,g2,_⟩:=hr i en row h1 h2;exact ⟨z,_,g1,g2⟩) k
def JN (w:World) (b:Nat) (o:Obj):World:={ w with heap:=w.heap.setIfInBounds b o }
theorem YB {w:World} {b:Nat} {o o':Obj} (h:w.heap[b]? = Xa o):(JN w b o').heap[b]? = Xa o':=(heap_set (o':=o') h).1
theorem Yf {w:World} {b b':Nat} {o:Obj} (hb:b'≠b):(JN w b o).heap[b']? = w.heap[b']?:=by
 unfold JN
 simp [Ne.symm hb]
theorem WC {w:World} {lim:Lm} {b:Nat} {es es':Array MapEntry} {clock clock':Nat} (h:w.heap[b]? = Xa (.map es clock)) (hl:lim b=0):ZU w lim (JN w b (.map es' clock')) lim (fun b'=>b'=b):=by
 refine ⟨rfl,rfl,rfl,by simp [JN],fun a ha=>?_,fun b' _ hb=>⟨Yf hb,rfl⟩,⟨fun b' _=>⟨XD _,fun o u ho hu=>?_⟩,fun _ _ h=>h⟩,rfl⟩
 ·by_cases hb:a.block=b
  ·unfold World.frozen?
   rw [hb,h,YB h]
  ·unfold World.frozen?
   rw [Yf hb]
 ·by_cases hb:b'=b
  ·subst hb;omega
  ·unfold World.cell? at hu ⊢
   rw [Yf hb]
   exact hu
theorem ZaE {P:Program} {e:TypeId} (h:(JE P (e-1048576)).isSome=Xb):Ze P e=Xc:=by
 obtain ⟨et,h⟩:=Option.isSome_iff_exists.1 h
 exact KP h
theorem map_at {c:Ctx} {σ:Nat→AV} {tm:Array Value} {w:World} {lim:Lm} {X:Nat→Nat→Option Nat} (h:Sim c σ tm w lim X) {d:Nat} {e:TypeId} {kvs:List (List AV)} {tl:List AV} (hd:σ d = .own Xb e [.slice Xc 2 kvs::tl]) (h0:c.P.cellsOf e=0) (hks:(JE c.P (e-1048576)).isSome=Xb) :
  Zj c.P e=Xb∧∃ b es clock,X d 0=Xa b∧tm.getD d undef = .map (Xa b)∧w.heap[b]? = Xa (.map es clock)∧lim b=0∧es.size=kvs.length∧Stamped es clock∧
   ∃ et,JE c.P (e-1048576)=Xa et∧∀ (i:Nat) (en:MapEntry) (row:List AV),es[i]? = Xa en→kvs[i]? = Xa row→Zfe c.P w lim et en row:=by
 have hr:=h.rel d
 rw [hd] at hr
 rcases (show ZV c.P w lim Xb e _ _ (X d 0) from hr) with ⟨us,_,_,_,h4,_⟩ | ⟨h1,_⟩ | ⟨_,⟨hm,b,es,clock,kvs',et,het,h1,h2,h3,h4,⟨tl',h5⟩,h6,h7,h8⟩ | ⟨hd',_⟩ | ⟨_,_,_,_,_,_,⟨_,hk',_⟩,_⟩⟩
 ·have:=h4 _ (XC.2 rfl)
  rw [h0] at this
  cases this
 ·cases h1
 ·simp only [List.cons.injEq,AV.slice.injEq,true_and,and_true] at h5
  obtain ⟨rfl,rfl⟩:=h5
  exact ⟨hm,b,es,clock,h1,h2,h3,h4,h6,h7,et,het,h8⟩
 ·rw [Zdg hd'] at hks;cases hks
 ·rw [hk'] at hks;cases hks
theorem Zbb {c:Ctx} {σ:Nat→AV} {tm:Array Value} {w:World} {lim:Lm} {X:Nat→Nat→Option Nat} (h:Sim c σ tm w lim X) {d k:Nat} {e:TypeId} {kvs:List (List AV)} {tl:List AV} (hd:σ d = .own Xb e [.slice Xc 2 kvs::tl]) (h0:c.P.cellsOf e=0) (hks:(JE c.P (e-1048576)).isSome=Xb) {v:Value}
  (hv:ZQ c.P w lim X σ k (.mref d 0) v):v=tm.getD d undef:=by
 obtain ⟨_,b,es,clock,h1,h2,h3,_⟩:=map_at h hd h0 hks
 obtain ⟨e',xs',m1,m2⟩:=hv
 rw [hd] at m1
 simp only [Zp,Xf,Xn] at m1
 obtain ⟨rfl,rfl⟩:=m1
 rcases m2 with ⟨m2,_⟩ | ⟨b',arr,cap,m2,m3,_⟩ | ⟨_,_,b',arr,cap,m2,m3,_⟩ | ⟨_,_,b',es',clock',m2,m3,m4⟩
 ·rw [h1] at m2;cases m2
 ·rw [h1] at m2;cases m2;rw [h3] at m3;cases m3
 ·rw [h1] at m2;cases m2;rw [h3] at m3;cases m3
 ·rw [h1] at m2;cases m2;rw [m4,h2]
theorem Zco {kvs:List (List AV)} {k:Int} {cl:AV} {j:Nat} {row:List AV} (hj:kvs[j]? = Xa row) (hk:ZM row=Xa k) (hu:∀ i r,kvs[i]? = Xa r→i≠j→ZM r≠Xa k) :
  ∀ i r,(YF kvs k cl)[i]? = Xa r→if i=j then r = [.val (.int .i64 k),cl] else kvs[i]? = Xa r∧ZM r≠Xa k:=by
 have hany:(kvs.any fun r=>ZM r == Xa k)=Xb:=Uk.2 ⟨row,Xh hj,by simp [hk]⟩
 intro i r hi
 rw [YF,if_pos hany,Xk] at hi
 cases hr:kvs[i]? with
 | none => rw [hr] at hi; cases hi
 | some r0 =>
  rw [hr] at hi
  simp only [Xo,Xf] at hi
  by_cases hij:i=j
  ·subst hij
   rw [hj] at hr
   cases hr
   rw [if_pos rfl,← hi,if_pos (by simp [hk])]
  ·rw [if_neg hij]
   have:=hu i r0 hr hij
   rw [if_neg (by simpa using this)] at hi
   subst hi
   exact ⟨rfl,this⟩
theorem ZfJ {kvs:List (List AV)} {k:Int} {cl:AV} {j:Nat} {row:List AV} (hj:kvs[j]? = Xa row) (hk:ZM row=Xa k):(YF kvs k cl).length=kvs.length:=by
 have hany:(kvs.any fun r=>ZM r == Xa k)=Xb:=Uk.2 ⟨row,Xh hj,by simp [hk]⟩
 rw [YF,if_pos hany,Xq]
theorem put_new {kvs:List (List AV)} {k:Int} {cl:AV} (h:∀ r∈kvs,ZM r≠Xa k):YF kvs k cl=kvs++[[.val (.int .i64 k),cl]]:=by
 have hany:¬ (kvs.any fun r=>ZM r == Xa k)=Xb:=by
  rw [Uk]
  rintro ⟨r,hr,hk⟩
  exact h r hr (by simpa using hk)
 rw [YF,if_neg hany]
theorem Sim.mapTake {c:Ctx} {σ:Nat→AV} {tm:Array Value} {w:World} {lim:Lm} {X:Nat→Nat→Option Nat} (h:Sim c σ tm w lim X) {d:Nat} {e et:TypeId} {kvs:List (List AV)} (k:Int) (hd:σ d = .own Xb e [[.slice Xc 2 kvs]]) (h0:c.P.cellsOf e=0) (het:JE c.P (e-1048576)=Xa et) {T kt vt:TypeId}
  (hT:c.P.underlying T=Xa (.map kt vt)) (hkt:c.P.underlying kt=Xa (.int .i64)) (hz:(zeroValue vt).run c.P w = .ok (.slice Xe 0 0) w) :
  ∃ X' v ob ys,(Instr.lookup T (tm.getD d undef) (.int .i64 k) Xc).run c.P w = .ok v w∧Sim c (upd σ d (.own Xb e (Zde [[.slice Xc 2 kvs]] k))) tm w lim X'∧ZV c.P w lim Xc et ys v ob∧ys=Zb1 [[.slice Xc 2 kvs]] k∧
   ∀ b,ob=Xa b→(c.A b∨c.w0.heap.size≤b)∧∀ i j,X' i j≠Xa b:=by
 obtain ⟨hm,b,es,clock,hX,hv,hb,hlb,hl,hs,et',het',hr⟩:=map_at h hd h0 (by rw [het];rfl)
 rw [het] at het'
 cases het'
 have hdn:d < c.nt:=by
  rcases Xx d c.nt with hlt | hge
  ·exact hlt
  ·have:=h.out d hge;rw [hd] at this;rcases this with h0 | h0<;>cases h0
 have hmo:=h.mp d e _ hd hm
 obtain ⟨hkeys,hfind⟩:=Zgy hl hs hr k
 -- the map with its hole, whatever is taken out
 have hole:∀ (r:Nat→Option Nat),(∀ q,r q=X d q∨r q=Xe)→r 0=X d 0→(∀ (i:Nat) (en:MapEntry) (row:List AV),es[i]? = Xa en→kvs[i]? = Xa row→ZM row≠Xa k→r (i+1)=X d (i+1))→
   Sim c (upd σ d (.own Xb e (Zde [[.slice Xc 2 kvs]] k))) tm w lim (Ke X d r):=by
  intro r hr1 hr0 hr2
  have hsub:∀ q b',r q=Xa b'→X d q=Xa b':=fun q b' hq=>by
   rcases hr1 q with h1 | h1
   ·rw [← h1];exact hq
   ·rw [h1] at hq;cases hq
  refine h.putRow (hns:=fun k1 e1 xs1 b1 m1 m2 _=>by
   cases k1 with
   | zero =>
    simp only [ZY,Xf,Xn] at m1
    rw [← m1.1,KP het] at m2
    cases m2
   | succ k1 => simp [ZY] at m1) (S := fun _ => False) r (ZU.refl w lim _) (fun _ hs => hs.elim) hdn rfl (fun _ _ => rfl) (.inl fun cs hcs => by rw [hd] at hcs; cases hcs) (fun i q hi hq => ⟨?_, ?_, fun b' hb' => .of rfl⟩) ?_
   (fun q b' hq=>⟨(h.ours d q b' (hsub q b' hq)).1,(h.ours d q b' (hsub q b' hq)).2,fun i j hij hx=>hij (h.dist i j d q b' hx (hsub q b' hq)).1⟩) (fun q q' b' hq hq'=>(h.dist d q d q' b' (hsub q b' hq) (hsub q' b' hq')).2) rfl ?_
  ·intro e1 xs1 ho
   rw [hd] at ho
   cases q with
   | zero => simp only [Zp, Xf, Xn] at ho; obtain ⟨rfl, rfl⟩ := ho; exact ⟨_, rfl, rfl⟩
   | succ q => cases ho
  ·obtain ⟨p,hp⟩:=Y4 h hq
   rw [hd] at hp
   cases q with
   | zero => exact hr0
   | succ q => cases hp
  ·show ZV c.P w lim Xb e _ _ (Ke X d r d 0)
   rw [Zl,hr0]
   exact .inr (.inr ⟨rfl,.inl ⟨hm,b,es,clock,kvs,et,het,hX,hv,hb,hlb,⟨_,rfl⟩,hl,hs,hr⟩⟩)
  ·intro e1 xs1 he
   injection he with _ h1 h2
   subst h1
   intro _ b1 es1 clock1 kvs1 tl1 et1 g0 g1 g2 g3 i en row g4 g5 g6
   rw [het] at g0
   cases g0
   rw [hr0,hX] at g1
   cases g1
   rw [hb] at g2
   cases g2
   rw [← h2] at g3
   simp only [Zde,Y0,List.cons.injEq,AV.slice.injEq,true_and,and_true] at g3
   obtain ⟨rfl,rfl⟩:=g3
   have hne:ZM row≠Xa k:=by
    intro hk
    obtain ⟨z,ys,e1,_⟩:=hr i en row g4 g5
    rw [e1,ZaX] at hk
    cases hk
    exact g6 _ (XC.2 rfl) (by rw [e1];rfl)
   obtain ⟨z,ys,k1,k2⟩:=hmo b es clock kvs [] et het hX hb rfl i en row g4 g5 (by simp)
   exact ⟨z,ys,k1,by rw [hr2 i en row g4 g5 hne];exact k2⟩
 rcases hfind with ⟨h1,_,h2⟩ | ⟨j,en,row,h1,h2,h3,h4,h5,h6,h7⟩
 ·have hg:kvs.find? (fun r=>ZM r == Xa k)=Xe:=UZ.2 fun r hr=>by simpa using h2 r hr
  refine ⟨_,.slice Xe 0 0,Xe,[],?_,hole (X d) (fun _=>.inl rfl) rfl (fun _ _ _ _ _ _=>rfl),.inl ⟨[],World.ownsRow_nil _ 0 et _,rfl,by simp,by simp,by simp,by simp⟩,by simp [Zb1,Y0,hg],by simp⟩
  rw [hv]
  simp [Instr.lookup,run_underlying hT,MapKept.run_getObj_map hb,MapKept.run_checkKey hkt (Jo k),MapKept.run_findKey hkt h1,hz,Result.andThen]
 ·obtain ⟨z,ys,k3,k2⟩:=hmo b es clock kvs [] et het hX hb rfl j en row h2 h3 (by simp)
  refine ⟨_,en.val,X d (j+1),ys,?_,hole (fun q=>if q=j+1 then Xe else X d q) (fun q=>by by_cases hq:q=j+1;exact .inr (if_pos hq);exact .inl (if_neg hq)) (if_neg (by omega)) (fun i en' row' g1 g2 g3=>if_neg fun hij=>?_),k2,?_,fun b1 hb1=>⟨(h.ours d _ b1 hb1).2,fun i j' hij=>?_⟩⟩
  ·rw [hv]
   simp [Instr.lookup,run_underlying hT,MapKept.run_getObj_map hb,MapKept.run_checkKey hkt (Jo k),MapKept.run_findKey hkt h1,Result.andThen]
  ·have:i=j:=by omega
   subst this
   rw [h3] at g2
   cases g2
   exact g3 h5
  ·simp only [Zb1,Y0,h6,k3,ZmM]
  ·by_cases hid:i=d
   ·subst hid
    rw [Zl] at hij
    split at hij
    ·cases hij
    ·rename_i hne
     exact hne (h.dist i j' i (j+1) b1 hij hb1).2
   ·rw [Zc X _ hid] at hij
    exact hid (h.dist i j' d (j+1) b1 hij hb1).1
theorem Sim.mapFill {c:Ctx} {σ:Nat→AV} {tm:Array Value} {w:World} {lim:Lm} {X:Nat→Nat→Option Nat} (h:Sim c σ tm w lim X) {d:Nat} {e et:TypeId} {kvs:List (List AV)} {tl:List AV} (k:Int) (hd:σ d = .own Xb e [.slice Xc 2 kvs::tl]) (h0:c.P.cellsOf e=0) (het:JE c.P (e-1048576)=Xa et) {T kt vt:TypeId}
  (hT:c.P.underlying T=Xa (.map kt vt)) (hkt:c.P.underlying kt=Xa (.int .i64)) (htl:∀ x∈tl,x = .val (.int .i64 k)) {v:Value} {ob:Option Nat} {ys:List (List AV)} (hv:ZV c.P w lim Xc et ys v ob)
  (ho:∀ b,ob=Xa b→(c.A b∨c.w0.heap.size≤b)∧∀ i j,X i j≠Xa b) :
  ∃ w' X',(Instr.mapUpdate T (tm.getD d undef) (.int .i64 k) v).run c.P w = .ok () w'∧Sim c (upd σ d (.own Xb e (ZeZ [.slice Xc 2 kvs::tl] k (c.P.cellsOf et) ys))) tm w' lim X':=by
 obtain ⟨hm,b,es,clock,hX,hvd,hb,hlb,hl,hs,et',het',hr⟩:=map_at h hd h0 (by rw [het];rfl)
 rw [het] at het'
 cases het'
 have hdn:d < c.nt:=by
  rcases Xx d c.nt with hlt | hge
  ·exact hlt
  ·have:=h.out d hge;rw [hd] at this;rcases this with h0 | h0<;>cases h0
 have hmo:=h.mp d e _ hd hm
 obtain ⟨hkeys,hfind⟩:=Zgy hl hs hr k
 have hvr:=ZV.rep hv Xc rfl
 -- the new entries and rows
 have fill:∀ (j:Nat) (es':Array MapEntry) (clock':Nat) (kvs':List (List AV)),es'.size=kvs'.length→Stamped es' clock'→(∃ en,es'[j]? = Xa en∧en.key = .int .i64 k∧en.val=v)→(∃ row,kvs'[j]? = Xa row∧row = [.val (.int .i64 k),.slice Xc (c.P.cellsOf et) ys])→
   (∀ (i:Nat) (en:MapEntry) (row:List AV),i≠j→es'[i]? = Xa en→kvs'[i]? = Xa row→es[i]? = Xa en∧kvs[i]? = Xa row∧ZM row≠Xa k)→
   Sim c (upd σ d (.own Xb e [[.slice Xc 2 kvs']])) tm (JN w b (.map es' clock')) lim (Ke X d fun q=>if q=j+1 then ob else X d q):=by
  intro j es' clock' kvs' g1 g2 g3 g4 g5
  obtain ⟨en0,g31,g32,g33⟩:=g3
  obtain ⟨row0,g41,g42⟩:=g4
  have hstep:=WC (es':=es') (clock':=clock') hb hlb
  have hrows:∀ (i:Nat) (en:MapEntry) (row:List AV),es'[i]? = Xa en→kvs'[i]? = Xa row→Zfe c.P (JN w b (.map es' clock')) lim et en row:=by
   intro i en row m1 m2
   by_cases hij:i=j
   ·subst hij
    rw [g31] at m1
    rw [g41] at m2
    cases m1
    cases m2
    exact ⟨k,ys,g42,g32,by rw [g33];exact hvr.mono hstep.ext⟩
   ·obtain ⟨n1,n2,_⟩:=g5 i en row hij m1 m2
    obtain ⟨z,zs,p1,p2,p3⟩:=hr i en row n1 n2
    exact ⟨z,zs,p1,p2,p3.mono hstep.ext⟩
  have hsplit:∀ q b',(if q=j+1 then ob else X d q)=Xa b'→(q=j+1∧ob=Xa b')∨(q≠j+1∧X d q=Xa b'):=fun q b' hq=>by
   by_cases hqj:q=j+1
   ·rw [if_pos hqj] at hq;exact .inl ⟨hqj,hq⟩
   ·rw [if_neg hqj] at hq;exact .inr ⟨hqj,hq⟩
  have hobb:ob≠Xa b:=fun hc=>(ho b hc).2 d 0 hX
  refine h.putRow (hns:=fun k1 e1 xs1 b1 m1 m2 _=>by
   cases k1 with
   | zero =>
    simp only [ZY,Xf,Xn] at m1
    rw [← m1.1,KP het] at m2
    cases m2
   | succ k1 => simp [ZY] at m1) (S := fun b' => b' = b) (fun q => if q = j + 1 then ob else X d q) hstep (fun b' hb' => ⟨0, by rw [hb']; exact hX⟩) hdn rfl (fun _ _ => rfl) (.inl fun cs hcs => by rw [hd] at hcs; cases hcs) (fun i q hi hq => ⟨?_, ?_, fun b' hb' => ?_⟩) ?_
   (fun q b' hq=>?_) (fun q q' b' hq hq'=>?_) rfl ?_
  ·intro e1 xs1 hoa
   rw [hd] at hoa
   cases q with
   | zero => simp only [Zp, Xf, Xn] at hoa; obtain ⟨rfl, rfl⟩ := hoa; exact ⟨_, rfl, rfl⟩
   | succ q => cases hoa
  ·obtain ⟨p,hp⟩:=Y4 h hq
   rw [hd] at hp
   cases q with
   | zero => exact if_neg (by omega)
   | succ q => cases hp
  ·by_cases hbb:b'=b
   ·subst hbb
    refine ⟨fun arr t m=>?_,fun es1 clock1 _=>⟨es',clock',YB hb⟩⟩
    rw [hb] at m;cases m
   ·exact .of (Yf hbb)
  ·show ZV c.P _ lim Xb e _ _ (Ke X d _ d 0)
   rw [Zl]
   refine .inr (.inr ⟨rfl,.inl ⟨hm,b,es',clock',kvs',et,het,?_,hvd,YB hb,hlb,⟨_,rfl⟩,g1,g2,hrows⟩⟩)
   rw [if_neg (by omega)]
   exact hX
  ·rcases hsplit q b' hq with ⟨_,h1⟩ | ⟨_,h1⟩
   ·refine ⟨XI ?_ hstep.size,(ho b' h1).1,fun i jj _ hx=>(ho b' h1).2 i jj hx⟩
    have:=hv
    rw [h1] at this
    exact this.lt
   ·exact ⟨XI (h.ours d q b' h1).1 hstep.size,(h.ours d q b' h1).2,fun i jj hij hx=>hij (h.dist i jj d q b' hx h1).1⟩
  ·rcases hsplit q b' hq with ⟨h1,h2⟩ | ⟨_,h2⟩ <;> rcases hsplit q' b' hq' with ⟨h3,h4⟩ | ⟨_,h4⟩
   ·omega
   ·exact ((ho b' h2).2 d q' h4).elim
   ·exact ((ho b' h4).2 d q h2).elim
   ·exact (h.dist d q d q' b' h2 h4).2
  ·intro e1 xs1 he
   injection he with _ h1 h2
   subst h1
   intro _ b1 es1 clock1 kvs1 tl1 et1 m0 m1 m2 m3 i en row m4 m5 m6
   rw [het] at m0
   cases m0
   have m1':X d 0=Xa b1:=by have:=m1;dsimp only at this;rwa [if_neg (by omega)] at this
   rw [hX] at m1'
   cases m1'
   rw [YB hb] at m2
   cases m2
   rw [← h2] at m3
   simp only [List.cons.injEq,AV.slice.injEq,true_and,and_true] at m3
   obtain ⟨rfl,rfl⟩:=m3
   by_cases hij:i=j
   ·subst hij
    rw [g31] at m4
    rw [g41] at m5
    cases m4
    cases m5
    refine ⟨k,ys,g42,?_⟩
    show ZV c.P _ lim Xc et ys en0.val (if i+1=i+1 then ob else X d (i+1))
    rw [if_pos rfl,g33]
    exact hv.mono hstep.ext fun b1 hb1=>⟨Yf fun hc=>hobb (by rw [hb1,hc]),rfl⟩
   ·obtain ⟨n1,n2,n3⟩:=g5 i en row hij m4 m5
    obtain ⟨z,zs,p1,p2⟩:=hmo b es clock kvs tl et het hX hb rfl i en row n1 n2 (fun x hx hc=>by
     rw [htl x hx] at hc
     cases row with
     | nil => cases hc
     | cons y row => simp only [List.head?_cons, Xf] at hc; subst hc; exact n3 rfl)
    refine ⟨z,zs,p1,?_⟩
    show ZV c.P _ lim Xc et zs en.val (if i+1=j+1 then ob else X d (i+1))
    rw [if_neg (by omega)]
    exact p2.mono hstep.ext fun b1 hb1=>⟨Yf fun hc=>by subst hc;have:=(h.dist d (i+1) d 0 b1 hb1 hX).2;omega,rfl⟩
 rcases hfind with ⟨h1,h2,h3⟩ | ⟨j,en,row,h1,h2,h3,h4,h5,h6,h7⟩
 ·refine ⟨JN w b (.map (es.push ⟨.int .i64 k,v,clock⟩) (clock+1)),Ke X d (fun q=>if q=es.size+1 then ob else X d q),?_,?_⟩
  rotate_left
  ·have:=fill es.size (es.push ⟨.int .i64 k,v,clock⟩) (clock+1) (kvs++[[.val (.int .i64 k),.slice Xc (c.P.cellsOf et) ys]]) (by simp [hl]) (stamped_push hs h2) ⟨⟨.int .i64 k,v,clock⟩,by simp,rfl,rfl⟩ ⟨[.val (.int .i64 k),.slice Xc (c.P.cellsOf et) ys],by rw [hl];simp,rfl⟩ (fun i en row hi m1 m2=>?_)
   ·simp only [ZeZ,Y0,put_new h3]
    exact this
   ·have hlt:i < es.size:=by
     have:=(Wa.1 m1).1
     simp at this
     omega
    rw [Array.getElem?_push,if_neg (by omega)] at m1
    rw [Xv (by omega)] at m2
    exact ⟨m1,m2,h3 row (Xh m2)⟩
  ·rw [hvd]
   simp [Instr.mapUpdate,run_underlying hT,MapKept.run_getObj_map hb,MapKept.run_checkKey hkt (Jo k),MapKept.run_findKey hkt h1,MapKept.run_setObj_map _ hb,Result.andThen,JN]
 ·have hj:es[j]? = Xa en:=h2
  have hjl:j < es.size:=(Wa.1 h2).1
  have hkeyf:∀ e',es[j]? = Xa e'→({ e' with key:=.int .i64 k,val:=v } : MapEntry).key=e'.key:=fun e' he'=>by rw [hj] at he';cases he';exact h4.symm
  refine ⟨JN w b (.map (es.modify j fun e'=>{ e' with key:=.int .i64 k,val:=v }) clock),Ke X d (fun q=>if q=j+1 then ob else X d q),?_,?_⟩
  rotate_left
  ·have:=fill j (es.modify j fun e'=>{ e' with key:=.int .i64 k,val:=v }) clock (YF kvs k (.slice Xc (c.P.cellsOf et) ys)) (by rw [Array.size_modify,hl,ZfJ h3 h5]) (stamped_modify hs _ _ (fun _ _=>rfl) (fun e' _ he'=>hkeyf e' he')) ⟨{ en with key:=.int .i64 k,val:=v },by simp [U0,hj],rfl,rfl⟩ ?_ (fun i en' row' hi m1 m2=>?_)
   ·simp only [ZeZ,Y0]
    exact this
   ·have hlen:=ZfJ (cl:=.slice Xc (c.P.cellsOf et) ys) h3 h5
    have hjk:j < (YF kvs k (.slice Xc (c.P.cellsOf et) ys)).length:=by omega
    have:=Zco (cl:=.slice Xc (c.P.cellsOf et) ys) h3 h5 h7 j _ (Xp hjk)
    rw [if_pos rfl] at this
    exact ⟨_,Xp hjk,this⟩
   ·have m3:=Zco h3 h5 h7 i row' m2
    rw [if_neg hi] at m3
    rw [U0,if_neg (by omega)] at m1
    exact ⟨m1,m3⟩
  ·rw [hvd]
   simp [Instr.mapUpdate,run_underlying hT,MapKept.run_getObj_map hb,MapKept.run_checkKey hkt (Jo k),MapKept.run_findKey hkt h1,hj,h4,MapKept.run_keyThatStays (Jo k),MapKept.run_setObj_map _ hb,Result.andThen,JN]
theorem WI {P:Program} {T et:TypeId} (h:JE P T=Xa et):∃ kt vt,P.underlying T=Xa (.map kt vt)∧P.underlying kt=Xa (.int .i64)∧P.underlying vt=Xa (.slice et):=by
 unfold JE at h
 split at h
 ·rename_i kt vt hT
  split at h
  ·rename_i et' h1 h2
   cases h
   exact ⟨kt,vt,hT,h1,h2⟩
  ·cases h
 ·cases h
theorem Zkj {P:Program} {T kt vt:TypeId} (hT:P.underlying T=Xa (.map kt vt)) (h:Zs6 P T=Xb) (w:World):(zeroValue vt).run P w = .ok (.slice Xe 0 0) w:=by
 unfold Zs6 at h
 rw [hT] at h
 dsimp only at h
 split at h
 ·rename_i i hi
  split at h
  ·rename_i hz
   simp [zeroValue,typeInfo,run_program,hi,hz]
  ·cases h
 ·cases h
theorem Zdy {w:World} {lim:Lm} (o:Obj) (S:Nat→Prop):ZU w lim (w.alloc o) ⟨fun b=>if b=w.heap.size then 0 else lim b,lim.t⟩ S where
 os:=rfl
 tape:=rfl
 output:=rfl
 size:=by simp
 frz a ha:=by
  unfold World.frozen?
  rw [heap_alloc_old w o ha]
 blk b hb _:=⟨heap_alloc_old w o hb,if_neg (by omega)⟩
 ext:=⟨fun b hb=>⟨by show lim b≤if b=w.heap.size then 0 else lim b;rw [if_neg (by omega)];exact XD _,fun o' u _ hu=>by
  unfold World.cell? at hu ⊢
  rw [heap_alloc_old w o hb]
  exact hu⟩,fun _ _ h=>h⟩
theorem Zhg {P:Program} {o:Oper} {σ:Nat→AV} {T et:TypeId} (ho:o.op = .makeMap T Xe) (hT:JE P T=Xa et):Jg P o σ (.own Xb (T+1048576) [[.slice Xc 2 []]]) [] []:=by
 intro c hc σ' tm w lim X hid hag hsim next Q hn
 have hstep:=Zdy (w:=w) (lim:=lim) (.map #[] 0) (fun _=>False)
 have hw2:=hsim.world hstep fun _ hs=>hs.elim
 have hnew:(w.alloc (.map #[] 0)).heap[w.heap.size]? = Xa (.map #[] 0):=heap_alloc_new w _
 refine Zi (v:=.map (Xa w.heap.size)) (w':=w.alloc (.map #[] 0)) ?_ (hn _ _ (ZT (ob:=Xa w.heap.size) hw2 (.inr (.inr ⟨rfl,.inl ⟨by simp [Zj],w.heap.size,#[],0,[],et,by rw [X4,hc];exact hT,rfl,rfl,hnew,if_pos rfl,⟨_,rfl⟩,rfl,stamped_empty 0,fun i en row h=>by simp at h⟩⟩)) (fun b hb=>?_) (fun _=>.mv (.inr (.inr (.inl rfl)))) fun _ hd=>by rw [KP (et:=et) (by rw [X4,hc];exact hT)] at hd;cases hd))
 ·have hr:(Instr.makeMap T Xe).run P w = .ok (.map (Xa w.heap.size)) (w.alloc (.map #[] 0)):=rfl
  simp only [execOp,ho,Option.map_none,hr,Sem.run_bind,Result.andThen_ok,Sem.run_pure]
 ·cases hb
  exact ⟨.inr hsim.frm.size,fun i j=>Yi hsim i j⟩
theorem Zjk {P:Program} {o:Oper} {σ:Nat→AV} {T et e:TypeId} {m kx:Operand} {d:Nat} {kvs:List (List AV)} {tl:List AV} {k:Int} (ho:o.op = .lookup T m kx Xc) (hT:JE P T=Xa et) (hz:Zs6 P T=Xb) (hm:Zn P σ m = .mref d 0) (hd:σ d = .own Xb e [.slice Xc 2 kvs::tl]) (h0:P.cellsOf e=0) (he:e=T+1048576)
  (hk:Zn P σ kx = .val (.int .i64 k)):Jg P o σ (.slice Xc (P.cellsOf et) (Zb1 [.slice Xc 2 kvs::tl] k)) [] [d]:=by
 refine Zt [d] rfl fun c hc σ' tm w lim X hg hfp hsim=>?_
 rw [ho] at hg
 have hv:=JF hc hsim hm (hg m (by simp [Op.operands]))
 have hkv:=ZP hc hsim hk (hg kx (by simp [Op.operands]))
 have hd':σ' d = .own Xb e [.slice Xc 2 kvs::tl]:=by rw [hfp d (by simp),hd]
 rw [← hc] at hv
 have hmv:=Zbb hsim hd' (by rw [hc];exact h0) (by rw [he,X4,hc,hT];rfl) hv
 obtain ⟨_,b,es,clock,hX,hvd,hb,hlb,hl,hs,et',het',hr⟩:=map_at hsim hd' (by rw [hc];exact h0) (by rw [he,X4,hc,hT];rfl)
 rw [he,X4,hc,hT] at het'
 cases het'
 rw [hc] at hr
 obtain ⟨kt,vt,hT1,hkt,hvt⟩:=WI hT
 obtain ⟨_,hfind⟩:=Zgy hl hs hr k
 have hzr:=Zkj hT1 hz w
 rcases hfind with ⟨h1,_,h2⟩ | ⟨j,en,row,h1,h2,h3,h4,h5,h6,h7⟩
 ·have hgn:kvs.find? (fun r=>ZM r == Xa k)=Xe:=UZ.2 fun r hr=>by simpa using h2 r hr
  refine ⟨.slice Xe 0 0,?_,?_⟩
  ·simp [execOp,ho,hmv,hvd,hkv,Instr.lookup,run_underlying hT1,MapKept.run_getObj_map hb,MapKept.run_checkKey hkt (Jo k),MapKept.run_findKey hkt h1,hzr,Result.andThen]
  ·simp only [Zb1,Y0,hgn]
   exact .sliceN
 ·obtain ⟨z,ys,p1,p2,p3⟩:=hr j en row h2 h3
  refine ⟨en.val,?_,?_⟩
  ·simp [execOp,ho,hmv,hvd,hkv,Instr.lookup,run_underlying hT1,MapKept.run_getObj_map hb,MapKept.run_checkKey hkt (Jo k),MapKept.run_findKey hkt h1,Result.andThen]
  ·simp only [Zb1,Y0,h6,p1,ZmM]
   exact p3
theorem Zce {P:Program} {o:Oper} {σ:Nat→AV} {T et e:TypeId} {m kx:Operand} {d:Nat} {kvs:List (List AV)} {k:Int} (ho:o.op = .lookup T m kx Xc) (hT:JE P T=Xa et) (hz:Zs6 P T=Xb) (hm:Zn P σ m = .mref d 0) (hd:σ d = .own Xb e [[.slice Xc 2 kvs]]) (h0:P.cellsOf e=0) (he:e=T+1048576)
  (hk:Zn P σ kx = .val (.int .i64 k)):Jg P o σ (.own Xc et (Zb1 [[.slice Xc 2 kvs]] k)) [(d,.own Xb e (Zde [[.slice Xc 2 kvs]] k))] []:=by
 intro c hc σ' tm w lim X hid hag hsim next Q hn
 have hg:∀ y∈o.op.operands,Zn P σ' y=Zn P σ y:=fun y hy=>Zw fun t ht=>hid t (by simp [Zo hy ht])
 rw [ho] at hg
 have hv:=JF hc hsim hm (hg m (by simp [Op.operands]))
 have hkv:=ZP hc hsim hk (hg kx (by simp [Op.operands]))
 have hd':σ' d = .own Xb e [[.slice Xc 2 kvs]]:=by rw [hag d (by simp),hd]
 rw [← hc] at hv
 have hmv:=Zbb hsim hd' (by rw [hc];exact h0) (by rw [he,X4,hc,hT];rfl) hv
 obtain ⟨kt,vt,hT1,hkt,hvt⟩:=WI hT
 obtain ⟨X',v,ob,ys,r1,r2,r3,r4,r5⟩:=hsim.mapTake (et:=et) k hd' (by rw [hc];exact h0) (by rw [he,X4,hc];exact hT) (by rw [hc];exact hT1) (by rw [hc];exact hkt) (by rw [hc];exact Zkj hT1 hz w)
 rw [hc] at r1
 subst r4
 refine Zi (v:=v) (w':=w) ?_ (hn v w (ZT r2 r3 r5 (fun h=>by cases h) fun h=>by cases h))
 simp only [execOp,ho,hmv,hkv,r1,Sem.run_bind,Result.andThen_ok,Sem.run_pure]
theorem ZiG {P:Program} {o:Oper} {σ:Nat→AV} {T et e:TypeId} {m kx:Operand} {d t:Nat} {kvs ys:List (List AV)} {tl:List AV} {k:Int} (ho:o.op = .insert T m kx (.tmp t)∨o.op = .mapUpdate T m kx (.tmp t)) (hT:JE P T=Xa et) (hm:Zn P σ m = .mref d 0) (hd:σ d = .own Xb e [.slice Xc 2 kvs::tl]) (h0:P.cellsOf e=0) (he:e=T+1048576)
  (hk:Zn P σ kx = .val (.int .i64 k)) (htl:∀ x∈tl,x = .val (.int .i64 k)) (ht:σ t = .own Xc et ys):Jg P o σ .dead [(t,.slice Xc (P.cellsOf et) ys),(d,.own Xb e (ZeZ [.slice Xc 2 kvs::tl] k (P.cellsOf et) ys))] []:=by
 intro c hc σ' tm w lim X hid hag hsim next Q hn
 have hg:∀ y∈o.op.operands,Zn P σ' y=Zn P σ y:=fun y hy=>Zw fun t ht=>hid t (by simp [Zo hy ht])
 have hgm:=hg m (by rcases ho with ho | ho<;>rw [ho]<;>simp [Op.operands])
 have hgk:=hg kx (by rcases ho with ho | ho<;>rw [ho]<;>simp [Op.operands])
 have hv:=JF hc hsim hm hgm
 have hkv:=ZP hc hsim hk hgk
 have hd':σ' d = .own Xb e [.slice Xc 2 kvs::tl]:=by rw [hag d (by simp),hd]
 have ht':σ' t = .own Xc et ys:=by rw [hag t (by simp),ht]
 have htd:t≠d:=fun h=>by rw [h,hd'] at ht';cases ht'
 rw [← hc] at hv
 have hmv:=Zbb hsim hd' (by rw [hc];exact h0) (by rw [he,X4,hc,hT];rfl) hv
 obtain ⟨kt,vt,hT1,hkt,hvt⟩:=WI hT
 obtain ⟨f1,f2,f3⟩:=hsim.free ht' (hsim.noRefs fun q=>by rw [ht'];cases q<;>rfl)
 have hd2:upd σ' t (KX c.P Xc et ys) d = .own Xb e [.slice Xc 2 kvs::tl]:=by rw [Zb _ _ (Ne.symm htd)];exact hd'
 obtain ⟨w',X',r1,r2⟩:=f1.mapFill (et:=et) k hd2 (by rw [hc];exact h0) (by rw [he,X4,hc];exact hT) (by rw [hc];exact hT1) (by rw [hc];exact hkt) htl f2 f3
 rw [hc] at r1
 refine JA (w':=w') ?_ (hn undef w' ?_)
 ·have hev:Act.eval ⟨tm,[]⟩ (.tmp t)=tm.getD t undef:=rfl
  rcases ho with ho | ho<;>simp only [execOp,ho,hmv,hkv,hev,r1,Sem.run_bind,Result.andThen_ok,Sem.run_pure]
 ·rw [← hc]
  exact Zq r2 rfl (k:=0) trivial
theorem Zec {P:Program} {o:Oper} {σ:Nat→AV} {T et e:TypeId} {m kx vx:Operand} {d s:Nat} {kvs:List (List AV)} {tl:List AV} {k:Int} (ho:o.op = .insert T m kx vx∨o.op = .mapUpdate T m kx vx) (hT:JE P T=Xa et) (hm:Zn P σ m = .mref d 0) (hd:σ d = .own Xb e [.slice Xc 2 kvs::tl]) (h0:P.cellsOf e=0) (he:e=T+1048576)
  (hk:Zn P σ kx = .val (.int .i64 k)) (htl:∀ x∈tl,x = .val (.int .i64 k)) (hvx:Zn P σ vx = .slice Xb s []):Jg P o σ .dead [(d,.own Xb e (ZeZ [.slice Xc 2 kvs::tl] k (P.cellsOf et) []))] []:=by
 intro c hc σ' tm w lim X hid hag hsim next Q hn
 have hg:∀ y∈o.op.operands,Zn P σ' y=Zn P σ y:=fun y hy=>Zw fun t ht=>hid t (by simp [Zo hy ht])
 have hgm:=hg m (by rcases ho with ho | ho<;>rw [ho]<;>simp [Op.operands])
 have hgk:=hg kx (by rcases ho with ho | ho<;>rw [ho]<;>simp [Op.operands])
 have hgv:=hg vx (by rcases ho with ho | ho<;>rw [ho]<;>simp [Op.operands])
 have hv:=JF hc hsim hm hgm
 have hkv:=ZP hc hsim hk hgk
 have hvv:Rep w lim (.slice Xb s []) (Act.eval ⟨tm,[]⟩ vx):=JF hc hsim hvx hgv
 have hd':σ' d = .own Xb e [.slice Xc 2 kvs::tl]:=by rw [hag d (by simp),hd]
 rw [← hc] at hv
 have hmv:=Zbb hsim hd' (by rw [hc];exact h0) (by rw [he,X4,hc,hT];rfl) hv
 obtain ⟨kt,vt,hT1,hkt,hvt⟩:=WI hT
 have hown:ZV c.P w lim Xc et [] (Act.eval ⟨tm,[]⟩ vx) Xe:=by
  generalize Act.eval ⟨tm,[]⟩ vx=v at hvv
  cases hvv with
  | sliceN => exact .inl ⟨[], World.ownsRow_nil _ 0 et _, rfl, by simp, by simp, by simp, by simp⟩
  | sliceE hf => rw [hf rfl]; exact .inr (.inl ⟨rfl, rfl, _, rfl⟩)
  | sliceC hs1 hc1 hf1 hle1 hl1 hus1 hcl1 h1 => rw [hf1 rfl]; exact .inr (.inl ⟨rfl, rfl, _, rfl⟩)
 obtain ⟨w',X',r1,r2⟩:=hsim.mapFill (et:=et) k hd' (by rw [hc];exact h0) (by rw [he,X4,hc];exact hT) (by rw [hc];exact hT1) (by rw [hc];exact hkt) htl hown (fun b hb=>by cases hb)
 rw [hc] at r1
 refine JA (w':=w') ?_ (hn undef w' ?_)
 ·rcases ho with ho | ho<;>simp only [execOp,ho,hmv,hkv,r1,Sem.run_bind,Result.andThen_ok,Sem.run_pure]
 ·rw [← hc]
  exact Zq r2 rfl (k:=0) trivial
def Zik (x:MapEntry):Int:=match x.key with | .int _ z=>z | _=>0
def Vp (P:Program) (ks:List (FuncId×FuncId×FuncId)):Prop:=
 ∀ p∈ks,Callable P p.1∧Callable P p.2.1∧
  (∀ (b:Nat) (w:World),Calls P p.1 #[.map (Xa b)] w fun e w'=>e = .returned (.func (.func p.2.2) #[] #[.pointer (Xa ⟨w.heap.size,0,Xe⟩)])∧∃ T,w'=w.alloc (.cells #[.map (Xa b)] T))∧
  ∀ (w:World) (B b:Nat) (es:Array MapEntry) (clock:Nat),w.cell? ⟨B,0,Xe⟩=Xa (.map (Xa b))→w.heap[b]? = Xa (.map es clock)→Stamped es clock→es.size≤1048576→
   (∀ x∈es.toList,∃ z:Int,x.key = .int .i64 z∧-9223372036854775808≤z∧z≤9223372036854775807)→
   Calls P p.2.1 #[.func (.func p.2.2) #[] #[.pointer (Xa ⟨B,0,Xe⟩)]] w fun e w'=>∃ v et,e = .returned v∧
    w'.ownsRow w.heap.size et 1 v es.size (((es.toList.map Zik).mergeSort fun x y=>decide (x≤y)).map (Value.int .i64))∧Below w.heap.size w w'
theorem Zan {w w':World} {lim:Lm} {N:Nat} (h:Below w.heap.size w w') (S:Nat→Prop):ZU w lim w' ⟨fun b=>if b < w.heap.size then lim b else N,lim.t⟩ S where
 os:=h.os
 tape:=h.tape
 output:=h.output
 size:=h.size
 frz a ha:=by
  unfold World.frozen?
  rw [h.block _ ha]
 blk b hb _:=⟨h.block b hb,if_pos hb⟩
 ext:=⟨fun b hb=>⟨by dsimp only;rw [if_pos hb];exact XD _,fun o' u _ hu=>by
  unfold World.cell? at hu ⊢
  rw [h.block b hb]
  exact hu⟩,fun _ _ h=>h⟩
theorem Zcu {P:Program} {o:Oper} {cl:Call} {f:FuncId} {x:Operand} {tm:Array Value} {w:World} {v:Value} (ho:o.op = .call cl) (hcl:cl.callee = .value (.func f)) (hargs:cl.args.toList = [x]) (hf:Callable P f) (hv:Act.eval ⟨tm,[]⟩ x=v) :
  (execOp (Act.eval ⟨tm,[]⟩) o).run P w = .ok (.enter f #[v]) w:=by
 obtain ⟨fn,hfn,hname,hbody⟩:=hf
 have hargs':cl.args = #[x]:=by apply XG.1;rw [hargs]
 have hev:Act.eval ⟨tm,[]⟩ (.func f) = .func (.func f) #[] #[]:=rfl
 simp only [execOp,ho,Sem.run_bind,resolve,hcl,hev,Deferred.ofValue,Sem.run_pure,Result.andThen_ok,hargs',invoke,callFunc,run_program,hfn,hname,hbody]
 simp [hv]
theorem Zm5 {P:Program} {o:Oper} {σ:Nat→AV} {ks:List (FuncId×FuncId×FuncId)} {p:FuncId×FuncId×FuncId} {cl:Call} {x:Operand} {d:Nat} {e:TypeId} {kvs:List (List AV)} {tl:List AV} (hks:Vp P ks) (hp:p∈ks) (ho:o.op = .call cl) (hcl:cl.callee = .value (.func p.1)) (hargs:cl.args.toList = [x])
  (hx:Zn P σ x = .mref d 0) (hd:σ d = .own Xb e [.slice Xc 2 kvs::tl]) (h0:P.cellsOf e=0) (hks':(JE P (e-1048576)).isSome=Xb):Jg P o σ (.eref d 0 p.2.2) [] [d]:=by
 intro c hc σ' tm w lim X hid hag hsim next Q hn
 have hargs':cl.args = #[x]:=by apply XG.1;rw [hargs]
 have hgx:Zn P σ' x=Zn P σ x:=Zw fun t ht=>hid t (Zo (x:=x) (by rw [ho];simp [Op.operands,Call.operands,hcl,hargs']) ht)
 have hv:=JF hc hsim hx hgx
 have hd':σ' d = .own Xb e [.slice Xc 2 kvs::tl]:=by rw [hag d (by simp),hd]
 rw [← hc] at hv
 have hmv:=Zbb hsim hd' (by rw [hc];exact h0) (by rw [hc];exact hks') hv
 obtain ⟨hm,b,es,clock,hX,hvd,hb,hlb,hl,hs,et',het',hr⟩:=map_at hsim hd' (by rw [hc];exact h0) (by rw [hc];exact hks')
 obtain ⟨k1,_,k3,_⟩:=hks p hp
 unfold Oper.wp
 rw [Zcu ho hcl hargs k1 (hmv.trans hvd),Oper.upon_enter]
 refine (k3 b w).mono ?_
 rintro e1 w' ⟨rfl,T,rfl⟩
 refine hn _ _ ?_
 have hstep:ZU w lim (w.alloc (.cells #[.map (Xa b)] T)) ⟨fun b'=>if b' < w.heap.size then lim b' else 1,lim.t⟩ (fun _=>False):=Zan ((Below.refl _ w).alloc (XD _) _) _
 have hw2:=hsim.world hstep fun _ hs=>hs.elim
 refine Zq hw2 rfl (k:=0) ⟨b,e,_,by show Zp (σ' d) 0=_;rw [hd'];rfl,hX,.inr ⟨hm,(by rw [hc];exact ZaE hks'),w.heap.size,rfl,?_,?_⟩⟩
 ·show 0 < if w.heap.size < w.heap.size then lim w.heap.size else 1
  rw [if_neg (by omega)]
  exact Nat.one_pos
 ·have:(w.alloc (.cells #[.map (Xa b)] T)).heap[w.heap.size]? = Xa (.cells #[.map (Xa b)] T (0,0)):=heap_alloc_new w _
  simp only [World.cell?,this]
  rfl
theorem Zh0 {P:Program} {w:World} {lim:Lm} {et:TypeId} : ∀ (es:List MapEntry) (kvs:List (List AV)),es.length=kvs.length→(∀ (i:Nat) (en:MapEntry) (row:List AV),es[i]? = Xa en→kvs[i]? = Xa row→Zfe P w lim et en row)→kvs.filterMap ZM=es.map Zik
 | [], [], _, _ => rfl
 | en :: es, row :: kvs, hl, h => by
  obtain ⟨z,ys,h1,h2,_⟩:=h 0 en row rfl rfl
  have hk:Zik en=z:=by simp [Zik,h2]
  rw [Up,h1,ZaX,Xg,hk,Zh0 es kvs (by simpa using hl) fun i e r g1 g2=>h (i+1) e r g1 g2]
 | [], _ :: _, hl, _ => by simp at hl
 | _ :: _, [], hl, _ => by simp at hl
theorem ZaT:∀ (zs:List Int),(zs.map fun z=>[AV.val (.int .i64 z)]).flatten=zs.map fun z=>AV.val (.int .i64 z)
 | [] => rfl
 | z :: zs => by rw [Xg, Wj, ZaT zs]; rfl
theorem Ziv {P:Program} {o:Oper} {σ:Nat→AV} {ks:List (FuncId×FuncId×FuncId)} {p:FuncId×FuncId×FuncId} {cl:Call} {x:Operand} {d:Nat} {e:TypeId} {kvs:List (List AV)} (hks:Vp P ks) (hp:p∈ks) (ho:o.op = .call cl) (hcl:cl.callee = .value (.func p.2.1)) (hargs:cl.args.toList = [x])
  (hx:Zn P σ x = .eref d 0 p.2.2) (hd:σ d = .own Xb e [[.slice Xc 2 kvs]]) (h0:P.cellsOf e=0) (hks':(JE P (e-1048576)).isSome=Xb) (hlen:kvs.length≤1048576) (hfine:∀ r∈kvs,Zbv r=Xb):Jg P o σ (.slice Xc 1 (ZcM [[.slice Xc 2 kvs]])) [] [d]:=by
 intro c hc σ' tm w lim X hid hag hsim next Q hn
 have hargs':cl.args = #[x]:=by apply XG.1;rw [hargs]
 have hgx:Zn P σ' x=Zn P σ x:=Zw fun t ht=>hid t (Zo (x:=x) (by rw [ho];simp [Op.operands,Call.operands,hcl,hargs']) ht)
 have hv:=JF hc hsim hx hgx
 have hd':σ' d = .own Xb e [[.slice Xc 2 kvs]]:=by rw [hag d (by simp),hd]
 rw [← hc] at hv
 obtain ⟨hm,b,es,clock,hX,hvd,hb,hlb,hl,hs,et',het',hr⟩:=map_at hsim hd' (by rw [hc];exact h0) (by rw [hc];exact hks')
 obtain ⟨b',e',xs',m1,m2,m3⟩:=hv
 rw [hd'] at m1
 simp only [Zp,Xf,Xn] at m1
 obtain ⟨rfl,rfl⟩:=m1
 rw [hX] at m2
 cases m2
 rcases m3 with ⟨m3 | m3,_⟩ | ⟨_,_,B,hvx,hlB,hcB⟩
 ·rw [hm] at m3;cases m3
 ·rw [hc,ZaE hks'] at m3;cases m3
 obtain ⟨_,k2,_,k4⟩:=hks p hp
 unfold Oper.wp
 rw [Zcu ho hcl hargs k2 hvx,Oper.upon_enter]
 have hrow:∀ i (hi:i < es.size),∃ row,kvs[i]? = Xa row∧Zfe c.P w lim et' es[i] row:=fun i hi=>⟨kvs[i]'(by omega),Xp _,hr i _ _ (XZ hi) (Xp _)⟩
 refine (k4 w B b es clock hcB hb hs (by omega) fun y hy=>?_).mono ?_
 ·obtain ⟨i,hi,rfl⟩:=Tn.1 hy
  have hi':i < es.size:=by simpa using hi
  obtain ⟨row,h1,z,ys,h2,h3,_⟩:=hrow i hi'
  have hf:=hfine row (Xh h1)
  rw [h2] at hf
  simp only [Zbv,ZaX,Xs,decide_eq_true_eq] at hf
  have:es.toList[i]=es[i]:=by simp
  exact ⟨z,by rw [this];exact h3,hf.1,hf.2⟩
 ·rintro e1 w' ⟨v,et,rfl,hown,hbel⟩
  refine hn _ _ ?_
  have hstep:ZU w lim w' ⟨fun b'=>if b' < w.heap.size then lim b' else es.size,lim.t⟩ (fun _=>False):=Zan hbel _
  have hw2:=hsim.world hstep fun _ hs=>hs.elim
  refine Zq hw2 rfl (k:=0) ?_
  have hks':kvs.filterMap ZM=es.toList.map Zik:=Zh0 es.toList kvs (by simpa using hl) fun i en row g1 g2=>hr i en row (by simpa using g1) g2
  show Rep w' _ (.slice Xc 1 (ZcM [[.slice Xc 2 kvs]])) v
  have hmk:ZcM [[.slice Xc 2 kvs]]=((es.toList.map Zik).mergeSort fun x y=>decide (x≤y)).map fun z=>[.val (.int .i64 z)]:=by simp only [ZcM,Y0,hks']
  rw [hmk]
  generalize hz:(es.toList.map Zik).mergeSort (fun x y=>decide (x≤y))=zs at hown
  have hzl:zs.length=es.size:=by rw [← hz];simp
  rcases hown.2 with ⟨rfl,hn0⟩ | ⟨g,cap,cur,rfl,hbg,hg,hnc,hcm,hcs,htake⟩
  ·have:zs = []:=XY (by omega)
   subst this
   exact .sliceN
  ·rw [← hzl] at hnc ⊢
   have hl2:(zs.map fun z=>[AV.val (.int .i64 z)]).length=zs.length:=by simp
   have hfl:(zs.map fun z=>[AV.val (.int .i64 z)]).flatten=zs.map fun z=>AV.val (.int .i64 z):=by
    exact ZaT zs
   have key:=Rep.sliceC (w:=w') (lim:=(⟨fun b'=>if b' < w.heap.size then lim b' else zs.length,lim.t⟩:Lm)) (full:=Xc) (s:=1) (xs:=zs.map fun z=>[AV.val (.int .i64 z)]) (b:=g) (o:=0) (cap:=cap) (us:=zs.map (Value.int .i64))
    (fun x hx=>by obtain ⟨z,_,rfl⟩:=Xj.1 hx;rfl) (fun x hx y hy=>by obtain ⟨z,_,rfl⟩:=Xj.1 hx;rw [XC.1 hy];rfl) (fun h=>by cases h) (by rw [hl2];exact hnc)
    (fun _=>by dsimp only;rw [if_neg (by omega)];simp) (by simp) (fun j u hj=>?_) (fun j y u hy hu=>?_)
   ·rw [hl2] at key
    exact key
   ·have hcell:=hown.cells (g:=g) rfl j u hj
    have hadd:(⟨g,0,Xe⟩:Addr).add j=⟨g,0+j,Xe⟩:=by unfold Addr.add;split<;>simp_all
    rw [hadd] at hcell
    exact hcell
   ·rw [hfl,Xk] at hy
    rw [Xk] at hu
    cases hzj:zs[j]? with
    | none => rw [hzj] at hy; cases hy
    | some z =>
     rw [hzj] at hy hu
     cases hy
     cases hu
     exact .val rfl
end Go.AM
