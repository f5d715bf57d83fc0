/- AmOwn, AmApp, AmCall, AmInp: texts of the proof, put together. -/
import Derived.Test.YtlgmnddelljbmaaGreatM1
import Derived.Laws.MakeOwn
import Derived.Laws.CopyRow

section
namespace Go.AM
theorem YT {P:Program} {o:Oper} {a:Act} {w w':World} {next:Act→World→Prop} {Q:Exit→Act→World→Prop}
  (hr:(execOp a.eval o).run P w = .ok .skip w') (h:next (a.put o.dst undef) w'):o.wp P a w next Q:=by
 unfold Oper.wp;rw [hr];exact h
theorem V6 (w:World) (g:Nat) (cur cs:Array Value) (t:TypeId) (hg:w.heap[g]? = some (.cells cur t (0,0))) (a:Addr):(w.setRow g cs).frozen? a=w.frozen? a:=by
 by_cases h:a.block=g
 ·have h1:=setRow_heap w g cur cs t (0,0) hg
  unfold World.frozen?
  rw [h,h1,hg]
 ·unfold World.frozen?
  rw [setRow_other w g a.block cs h]
theorem Je {w:World} {lim:Nat→Nat} {g:Nat} {cur cs:Array Value} {t:TypeId} (hg:w.heap[g]? = some (.cells cur t (0,0))) (hl:lim g=0) :
  ZT w lim (w.setRow g cs) lim (fun b=>b=g) where
 os:=rfl
 tape:=rfl
 output:=rfl
 size:=by simp
 frz a _:=V6 w g cur cs t hg a
 blk b _ hb:=⟨setRow_other w g b cs hb,rfl⟩
 ext b _:=⟨Nat.le_refl _,fun o u ho hu=>by
  by_cases h:b=g
  ·subst h;rw [hl] at ho;omega
  ·unfold World.cell? at hu ⊢
   rw [setRow_other w g b cs h]
   exact hu⟩
def V4 (r:Nat→Option Nat) (off n:Nat) (new:Nat→Option Nat):Nat→Option Nat:=fun k=>if k=0 then r 0 else if off < k∧k≤off+n then new (k-1-off) else r k
theorem Sim.setCells {c:Ctx} {σ:Nat→AV} {tm:Array Value} {w:World} {lim:Nat→Nat} {X:Nat→Nat→Option Nat} (h:Sim c σ tm w lim X) {d off b:Nat} {cs vc:List AV} {us:List Value} {arr:Array Value} {t:TypeId}
  (new:Nat→Option Nat) (hd:σ d = .box cs) (hX:X d 0=some b) (hfit:off+vc.length≤cs.length) (hl:vc.length=us.length) (hvc:∀ x∈vc,ZbN x)
  (hr:∀ (i:Nat) (x:AV) (u:Value),vc[i]? = some x→us[i]? = some u→JX c.P w lim (new i) x u) (hheap:w.heap[b]? = some (.cells arr t (0,0)))
  (hnp:∀ k,off≤k→k < off+vc.length→∀ i,i≠d→¬ Jg (σ i) d (k+1))
  (hn:∀ i b',new i=some b'→i < vc.length∧(c.A b'∨c.w0.heap.size≤b')∧b' < w.heap.size∧(∀ j k,X j k≠some b')∧∀ i',new i'=some b'→i=i') :
  Sim c (upd σ d (.box (cs.take off++vc++cs.drop (off+vc.length)))) tm (w.setRow b (arr.toList.take off++us++arr.toList.drop (off+us.length)).toArray) lim (W2 X d (V4 (X d) off vc.length new)):=by
 have hrel:=h.rel d
 rw [hd] at hrel
 obtain ⟨b0,arr0,t0,g1,g2,g3,g4,g5,g6,g7⟩:=(show ZG c.P w lim (X d) cs _ from hrel)
 have hb0:b0=b:=by rw [g1] at hX;exact Option.some.inj hX
 subst hb0
 rw [g3] at hheap
 simp only [Option.some.injEq,Obj.cells.injEq,and_true] at hheap
 obtain ⟨rfl,rfl⟩:=hheap
 have hstep:=Je (cs:=(arr0.toList.take off++us++arr0.toList.drop (off+us.length)).toArray) g3 g5
 have hdn:d < c.nt:=by
  rcases Nat.lt_or_ge d c.nt with hlt | hge
  ·exact hlt
  ·have:=h.out d hge;rw [hd] at this;rcases this with h0 | h0<;>cases h0
 have hal:arr0.toList.length=cs.length:=by simpa using g4
 refine h.putRow (S:=fun b=>b=b0) _ hstep (fun b' hb'=>⟨0,by rw [hb'];exact g1⟩) hdn rfl (fun i _=>rfl) (.inr ⟨⟨_,rfl⟩,rfl,rfl⟩) (fun i q hi hr=>?_) ?_ (fun k b' hk=>?_) (fun k k' b' hk hk'=>?_)
 ·obtain ⟨p,hp⟩:=K1 h hr
  rw [hd] at hp
  cases q with
  | zero => simp [Zr] at hp
  | succ q =>
   have hq:q < off∨off+vc.length≤q:=by
    rcases Nat.lt_or_ge q off with h1 | h1
    ·exact .inl h1
    ·rcases Nat.lt_or_ge q (off+vc.length) with h2 | h2
     ·exact (hnp q h1 h2 i hi hr).elim
     ·exact .inr h2
   have hlt:q < cs.length:=by
    rcases Nat.lt_or_ge q cs.length with h1 | h1
    ·exact h1
    ·simp [Zr,List.getElem?_eq_none h1] at hp
   have hsame:(cs.take off++vc++cs.drop (off+vc.length))[q]? = cs[q]?:=by
    rcases hq with h1 | h1
    ·rw [List.append_assoc,List.getElem?_append_left (by simp;omega),List.getElem?_take,if_pos h1]
    ·rw [List.getElem?_append_right (by simp;omega),List.getElem?_drop]
     congr 1
     simp<;>omega
   refine ⟨fun e xs hex=>⟨xs,?_,rfl⟩,?_,fun b' hb'=>.of (setRow_other w b0 b' _ fun e=>?_)⟩
   ·rw [hd] at hex
    simp only [Zr,hsame] at hex ⊢
    exact hex
   ·unfold V4
    rw [if_neg (by omega),if_neg (by omega)]
   ·have:=(h.dist d (q+1) d 0 b' hb' (by rw [e];exact g1)).2
    omega
 ·refine ⟨b0,(arr0.toList.take off++us++arr0.toList.drop (off+us.length)).toArray,t0,?_,g2,setRow_heap w b0 arr0 _ t0 _ g3,?_,g5,fun x hx=>?_,fun i x u hx hu=>?_⟩
  ·rw [Zs];exact g1
  ·simp only [List.size_toArray,List.length_append,List.length_take,List.length_drop]
   omega
  ·rcases List.mem_append.1 hx with hx | hx
   ·rcases List.mem_append.1 hx with hx | hx
    ·exact g6 x (List.mem_of_mem_take hx)
    ·exact hvc x hx
   ·exact g6 x (List.mem_of_mem_drop hx)
  ·rw [Zs]
   have hu':(arr0.toList.take off++us++arr0.toList.drop (off+us.length))[i]? = some u:=by simpa using hu
   have old:∀ j,i=j→cs[j]? = some x→arr0[j]? = some u→(j < off∨off+vc.length≤j)→JX c.P (w.setRow b0 (arr0.toList.take off++us++arr0.toList.drop (off+us.length)).toArray) lim (V4 (X d) off vc.length new (i+1)) x u:=by
    intro j hij hxj huj hout
    subst hij
    have hrow:V4 (X d) off vc.length new (i+1)=X d (i+1):=by
     unfold V4
     rw [if_neg (by omega),if_neg (by omega)]
    rw [hrow]
    refine (g7 i x u hxj huj).mono hstep.ext fun b' hb'=>hstep.blk b' (h.ours d (i+1) b' hb').1 fun e=>?_
    have:=h.dist d (i+1) d 0 b' hb' (by rw [e];exact g1)
    omega
   by_cases h1:i < off
   ·rw [List.append_assoc,List.getElem?_append_left (by simp;omega),List.getElem?_take,if_pos h1] at hx
    rw [List.append_assoc,List.getElem?_append_left (by simp;omega),List.getElem?_take,if_pos h1] at hu'
    exact old i rfl hx (by simpa using hu') (.inl h1)
   ·by_cases h2:i < off+vc.length
    ·rw [List.append_assoc,List.getElem?_append_right (by simp;omega),List.getElem?_append_left (by simp;omega)] at hx
     rw [List.append_assoc,List.getElem?_append_right (by simp;omega),List.getElem?_append_left (by simp;omega)] at hu'
     have e1:i-(cs.take off).length=i-off:=by simp<;>omega
     have e2:i-(arr0.toList.take off).length=i-off:=by simp<;>omega
     rw [e1] at hx
     rw [e2] at hu'
     have hrow:V4 (X d) off vc.length new (i+1)=new (i-off):=by
      unfold V4
      rw [if_neg (by omega),if_pos (by omega)]
      congr 1<;>omega
     rw [hrow]
     refine (hr (i-off) x u hx hu').mono hstep.ext fun b' hb'=>hstep.blk b' (hn _ b' hb').2.2.1 fun e=>(hn _ b' hb').2.2.2.1 d 0 (by rw [e];exact g1)
    ·have hlt:i < cs.length:=by
      have:=(List.getElem?_eq_some_iff.1 hx).1
      simp at this
      omega
     have e1:(cs.take off++vc++cs.drop (off+vc.length))[i]? = cs[i]?:=by
      rw [List.getElem?_append_right (by simp;omega),List.getElem?_drop]
      congr 1
      simp<;>omega
     have e2:(arr0.toList.take off++us++arr0.toList.drop (off+us.length))[i]? = arr0.toList[i]?:=by
      rw [List.getElem?_append_right (by simp;omega),List.getElem?_drop]
      congr 1
      simp<;>omega
     rw [e1] at hx
     rw [e2] at hu'
     exact old i rfl hx (by simpa using hu') (.inr (by omega))
 ·unfold V4 at hk
  split at hk
  ·exact ⟨by simp;exact (h.ours d 0 b' hk).1,(h.ours d 0 b' hk).2,fun i j hi e=>hi (h.dist i j d 0 b' e hk).1⟩
  ·split at hk
   ·have:=hn _ b' hk
    exact ⟨by simp;exact this.2.2.1,this.2.1,fun i j _=>this.2.2.2.1 i j⟩
   ·exact ⟨by simp;exact (h.ours d k b' hk).1,(h.ours d k b' hk).2,fun i j hi e=>hi (h.dist i j d k b' e hk).1⟩
 ·unfold V4 at hk hk'
  split at hk<;>split at hk'
  ·omega
  ·split at hk'
   ·exact ((hn _ b' hk').2.2.2.1 d 0 hk).elim
   ·have:=h.dist d 0 d k' b' hk hk';omega
  ·split at hk
   ·exact ((hn _ b' hk).2.2.2.1 d 0 hk').elim
   ·have:=h.dist d k d 0 b' hk hk';omega
  ·split at hk<;>split at hk'
   ·have:=(hn _ b' hk).2.2.2.2 _ hk'
    omega
   ·exact ((hn _ b' hk).2.2.2.1 d k' hk').elim
   ·exact ((hn _ b' hk').2.2.2.1 d k hk).elim
   ·have:=h.dist d k d k' b' hk hk';omega
theorem KB {P:Program} {T:TypeId} {w:World} {b off:Nat} {arr:Array Value} {t:TypeId} {v:Value} {us:List Value} {i:TypeInfo} (hi:P.info? T=some i) (hv:v.cells=us.toArray) (hn:us.length=P.cellsOf T)
  (hg:w.heap[b]? = some (.cells arr t (0,0))) (hfit:off+us.length≤arr.size) (h1:∀ u∈us,u.oneCell'=true) :
  (Instr.storeAt T (.pointer (some ⟨b,off,none⟩)) v).run P w = .ok () (w.setRow b (arr.toList.take off++us++arr.toList.drop (off+us.length)).toArray):=by
 have hs:=run_storeCells_at P b off t us 0 arr w hg (by simpa using hfit) h1
 simp only [Nat.add_zero] at hs
 simp [Instr.storeAt,Instr.sureAddr,storeVar,Zn hi,hv,hn,hs]
theorem Zbw {c:Ctx} {σ:Nat→AV} {tm:Array Value} {w:World} {lim:Nat→Nat} {X:Nat→Nat→Option Nat} (h:Sim c σ tm w lim X) {d off n k i:Nat} {cs:List AV} (hd:σ d = .box cs)
  (hn:Zbc ((cs.drop off).take n)) (h1:off≤k) (h2:k < off+n) (hr:Jg (σ i) d (k+1)):False:=by
 obtain ⟨p,hp⟩:=K1 h hr
 rw [hd] at hp
 simp only [Zr] at hp
 split at hp
 ·rename_i e xs hx
  refine hn (.own true e xs) (List.mem_of_getElem? (i:=k-off) ?_) e xs rfl
  rw [List.getElem?_take,if_pos (by omega),List.getElem?_drop,show off+(k-off)=k by omega]
  exact hx
 ·cases hp
theorem Z4 {c:Ctx} {σ1:Nat→AV} {tm:Array Value} {w:World} {lim:Nat→Nat} {X:Nat→Nat→Option Nat} (h:Sim c σ1 tm w lim X) {dst:Option Tmp} {x:Bool} {e:TypeId} {xs:List (List AV)} {v:Value} {ob:Option Nat}
  (hx:Z9 c.P w lim x e xs v ob) (ho:∀ b,ob=some b→(c.A b∨c.w0.heap.size≤b)∧∀ i j,X i j≠some b) (hmo:x=true→Ze9 c.P w lim e xs (KM ob)):Zkn c dst σ1 (.own x e xs) tm v w:=by
 cases dst with
 | none => exact ⟨lim, X, h⟩
 | some d => exact fun hd hm => ⟨lim, _, h.putOwn hd (ZL hm) hx (fun b hb => ⟨(ho b hb).1, fun i j _ => (ho b hb).2 i j⟩) hmo⟩
def Wn (P:Program) (x:Bool) (e:TypeId) (xs:List (List AV)):AV:=match x with | true=>.dead | false=>.slice false (P.cellsOf e) xs
theorem Sim.free {c:Ctx} {σ:Nat→AV} {tm:Array Value} {w:World} {lim:Nat→Nat} {X:Nat→Nat→Option Nat} (h:Sim c σ tm w lim X) {t:Nat} {x:Bool} {e:TypeId} {xs:List (List AV)} (ht:σ t = .own x e xs) (hno:ZjL σ t) :
  Sim c (upd σ t (Wn c.P x e xs)) tm w lim (W2 X t YC)∧Z9 c.P w lim x e xs (tm.getD t undef) (X t 0)∧
   ∀ b,X t 0=some b→(c.A b∨c.w0.heap.size≤b)∧∀ i j,W2 X t YC i j≠some b:=by
 have hr:=h.rel t
 rw [ht] at hr
 have hr':Z9 c.P w lim x e xs (tm.getD t undef) (X t 0):=hr
 have htn:t < c.nt:=by
  rcases Nat.lt_or_ge t c.nt with hlt | hge
  ·exact hlt
  ·have:=h.out t hge;rw [ht] at this;rcases this with h0 | h0<;>cases h0
 refine ⟨h.weaken (k:=0) htn (fun cs hcs=>by rw [ht] at hcs;cases hcs) hno (by cases x<;>rfl) (fun i q hq=>by cases x<;>rcases hq with hq | ⟨_,hq⟩ <;> cases hq) ?_,hr',fun b hb=>⟨(h.ours t 0 b hb).2,fun i j hij=>?_⟩⟩
 ·cases x with
  | true => trivial
  | false => exact Z9.rep hr' false rfl
 ·by_cases hi:i=t
  ·subst hi;rw [Zs] at hij;cases hij
  ·rw [Zw X YC hi] at hij
   exact hi (h.dist i j t 0 b hij hb).1
def Ku (σ:Nat→AV) (t:Nat) (us:List (Nat×AV)):Prop:=(∀ u∈us,u.1≠t∧u.2 = .dead∧∃ k,Jg (σ u.1) t k)∧∀ i k,i≠t→Jg (σ i) t k→i∈us.map (·.1)
def J9 (T:Odr) (σ:Nat→AV) (t:Nat) (us:List (Nat×AV)):Prop:=(T = .text∧Ku σ t us)∨∃ N M K,T = .any N M K∧N t=true∧us = []
theorem J9.all {T:Odr} {σ σ':Nat→AV} {t:Nat} {us:List (Nat×AV)} (h:J9 T σ t us) (hT:T.rel σ σ'):Ku σ' t us:=by
 rcases h with ⟨rfl,h⟩ | ⟨N,M,K,rfl,h1,rfl⟩
 ·have:σ'=σ:=hT
  rw [this]
  exact h
 ·exact ⟨by simp,fun i k _ hr=>(hT.1 t i k (by simp [Odr.nr,h1]) hr).elim⟩
theorem Zih {T':Odr} {P:Program} {o:Oper} {σ:Nat→AV} {T:TypeId} {a x:Operand} {d off:Nat} {cs vc0 vc:List AV} {y:AV} (ho:o.op = .store T a x) (ha:Zm P σ a = .ptr d off) (hd:σ d = .box cs)
  (hx:Zm P σ x=y) (hy:y.cells? = some vc0) (hn0:vc0.length=P.cellsOf T) (h0:P.cellsOf T≠0) (hfit:off+P.cellsOf T≤cs.length) (hnr:Zbc ((cs.drop off).take (P.cellsOf T))∨J9 T' σ d [])
  (hno:vc.length=vc0.length∧∀ (w:World) (lim:Nat→Nat) (us:List Value),J7 w lim vc0 us→(∀ z∈vc,ZbN z)∧∀ (j:Nat) (z:AV) (u:Value),vc[j]? = some z→us[j]? = some u→JX P w lim none z u) :
  KQ T' P o σ .dead [(d,.box (cs.take off++vc++cs.drop (off+P.cellsOf T)))] [d]:=by
 intro c hc σ' tm w lim X hid hag hT hsim next Q hnx
 have hga:Zm P σ' a=Zm P σ a:=ZF fun t ht=>hid t (by simp [Zu (o:=o) (x:=a) (by rw [ho];simp [Op.operands]) ht])
 have hgx:Zm P σ' x=Zm P σ x:=ZF fun t ht=>hid t (by simp [Zu (o:=o) (x:=x) (by rw [ho];simp [Op.operands]) ht])
 have hd':σ' d = .box cs:=by rw [hag d (by simp),hd]
 have hva:=YF hc hsim ha hga
 rw [← hc] at hva
 obtain ⟨b,h1,h2,h3⟩:=K5 hsim hd' hva
 obtain ⟨us,h4,h5⟩:=Wv hy (YF hc hsim hx hgx)
 have h6:=hno.2 w lim us h5
 have hn:vc.length=P.cellsOf T:=hno.1.trans hn0
 obtain ⟨b0,arr,t,g1,g2,g3,g4,g5,g6,g7⟩:=h3
 have hb0:b0=b:=by rw [g1] at h1;exact Option.some.inj h1
 subst hb0
 obtain ⟨i,hi⟩:=ZC h0
 have hset:=hsim.setCells (off:=off) (vc:=vc) (us:=us) (fun _=>none) hd' g1 (by rw [hn];exact hfit) (hno.1.trans h5.1) h6.1 (fun j z u hz hu=>by rw [hc];exact h6.2 j z u hz hu) g3 (fun k h1 h2 i hi hr=>by
   rcases hnr with hnr | hdr
   ·exact Zbw hsim hd' (by rw [← hn] at hnr;exact hnr) h1 h2 hr
   ·have:=(hdr.all hT).2 i (k+1) hi hr
    simp at this) (fun _ _ he=>by cases he)
 refine YT (w':=w.setRow b0 (arr.toList.take off++us++arr.toList.drop (off+us.length)).toArray) ?_ (hnx undef _ ?_)
 ·have hst:=KB (P:=P) (T:=T) (w:=w) (b:=b0) (off:=off) (v:=Act.eval ⟨tm,[]⟩ x) hi h4 (by rw [← h5.1,hn0]) g3 (by rw [← h5.1,hn0,g4];exact hfit) (fun u hu=>by
   obtain ⟨j,hj⟩:=List.mem_iff_getElem?.1 hu
   have hlt:j < vc0.length:=by rw [h5.1];exact (List.getElem?_eq_some_iff.1 hj).1
   exact (h5.2.2 j _ u (List.getElem?_eq_getElem hlt) hj).oneCell (h5.2.1 _ (List.getElem_mem hlt)))
  simp only [execOp,ho,h2,Sem.run_bind,hst,Result.andThen_ok,Sem.run_pure]
 ·rw [hn] at hset
  exact Zy hset rfl (k:=0) trivial
theorem KF (σ:Nat→AV):∀ (us vs:List (Nat×AV)),JF σ (us++vs)=JF (JF σ us) vs
 | [], _ => rfl
 | (d, x) :: us, vs => by
  simp only [List.cons_append,JF]
  exact KF _ us vs
theorem Ww:∀ (us:List (Nat×AV)) (σ:Nat→AV) (i:Nat),(∀ u∈us,u.2 = .dead)→JF σ us i=if i∈us.map (·.1) then .dead else σ i
 | [], σ, i, _ => by simp [JF]
 | (d, x) :: us, σ, i, h => by
  have hx:x = .dead:=h (d,x) (by simp)
  subst hx
  rw [JF,Ww us _ i fun u hu=>h u (by simp [hu])]
  by_cases hm:i∈us.map (·.1)
  ·rw [if_pos hm,if_pos (by simp only [List.map_cons,List.mem_cons];exact .inr hm)]
  ·rw [if_neg hm]
   by_cases hi:i=d
   ·subst hi
    rw [ZY,if_pos (by simp)]
   ·rw [Zi _ _ hi,if_neg (by simp only [List.map_cons,List.mem_cons];exact fun h=>h.elim hi hm)]
theorem Vm {x:AV} {d k:Nat} (h:Jg x d k):(∀ cs,x≠.box cs)∧Vu x∧x.isG=false:=by
 rcases h with rfl | ⟨o,rfl⟩ <;> exact ⟨fun _ h=>(by cases h),⟨fun _ h=>(by cases h),fun _ _ h=>(by cases h),fun _ h=>(by cases h)⟩,rfl⟩
theorem Sim.drops {c:Ctx} {tm:Array Value} {w:World} {lim:Nat→Nat} : ∀ (us:List (Nat×AV)) {σ:Nat→AV} {X:Nat→Nat→Option Nat},Sim c σ tm w lim X→(∀ u∈us,u.2 = .dead∧Vu (σ u.1)∧u.1 < c.nt)→
  ∃ X',Sim c (JF σ us) tm w lim X'∧∀ i,i∉us.map (·.1)→X' i=X i
 | [], _, X, h, _ => ⟨X, h, fun _ _ => rfl⟩
 | (d, x) :: us, σ, X, h, hu => by
  obtain ⟨h1,h2,h3⟩:=hu (d,x) (by simp)
  have h1:x = .dead:=h1
  subst h1
  have hw:=h.weaken (k:=0) h3 h2.1 (h.noRefs h2.none) (x:=.dead) rfl (fun i q hq=>by rcases hq with hq | ⟨_,hq⟩ <;> cases hq) trivial
  obtain ⟨X',g1,g2⟩:=Sim.drops us hw fun u hm=>by
   obtain ⟨k1,k2,k3⟩:=hu u (by simp [hm])
   refine ⟨k1,?_,k3⟩
   by_cases he:u.1=d
   ·rw [he,ZY]
    exact ⟨fun _ h=>(by cases h),fun _ _ h=>(by cases h),fun _ h=>(by cases h)⟩
   ·rw [Zi _ _ he]
    exact k2
  refine ⟨X',g1,fun i hi=>?_⟩
  simp only [List.map_cons,List.mem_cons,not_or] at hi
  rw [g2 i hi.2,Zw X YC hi.1]
theorem W4 {c:Ctx} {σ:Nat→AV} {tm:Array Value} {w:World} {lim:Nat→Nat} {X:Nat→Nat→Option Nat} (h:Sim c σ tm w lim X) {t:Nat} (h1:σ t≠.dead) (h2:(σ t).isG=false):t < c.nt:=by
 rcases Nat.lt_or_ge t c.nt with hlt | hge
 ·exact hlt
 ·rcases h.out t hge with h0 | h0
  ·exact (h1 h0).elim
  ·rw [h2] at h0;cases h0
theorem Sim.freeAll {c:Ctx} {σ:Nat→AV} {tm:Array Value} {w:World} {lim:Nat→Nat} {X:Nat→Nat→Option Nat} (h:Sim c σ tm w lim X) {t:Nat} {x:Bool} {e:TypeId} {xs:List (List AV)} {us:List (Nat×AV)} (ht:σ t = .own x e xs)
  (hus:(x=false∧us = [])∨Ku σ t us) :
  ∃ X',Sim c (JF σ ((t,Wn c.P x e xs)::us)) tm w lim X'∧Z9 c.P w lim x e xs (tm.getD t undef) (X t 0)∧∀ b,X t 0=some b→(c.A b∨c.w0.heap.size≤b)∧∀ i j,X' i j≠some b:=by
 rcases hus with ⟨rfl,rfl⟩ | ⟨hd1,hd2⟩
 ·obtain ⟨h1,h2,h3⟩:=h.free ht (h.noRefs fun k=>by rw [ht];rfl)
  exact ⟨_,h1,h2,h3⟩
 ·obtain ⟨X1,g1,g2⟩:=h.drops us fun u hu=>by
   obtain ⟨k1,k2,k,k3⟩:=hd1 u hu
   obtain ⟨m1,m2,m3⟩:=Vm k3
   exact ⟨k2,m2,W4 h (fun e=>by rw [e] at k3;rcases k3 with k3 | ⟨_,k3⟩ <;> cases k3) m3⟩
  have htn:t∉us.map (·.1):=by
   intro hm
   obtain ⟨u,hu,rfl⟩:=List.mem_map.1 hm
   exact (hd1 u hu).1 rfl
  have hdead:∀ (σ:Nat→AV) (i:Nat),JF σ us i=if i∈us.map (·.1) then .dead else σ i:=fun σ i=>Ww us σ i fun u hu=>(hd1 u hu).2.1
  have ht1:JF σ us t = .own x e xs:=by rw [hdead,if_neg htn,ht]
  obtain ⟨f1,f2,f3⟩:=g1.free ht1 (fun i k hi hr=>by
   rw [hdead] at hr
   split at hr
   ·rcases hr with hr | ⟨_,hr⟩ <;> cases hr
   ·rename_i hm
    exact hm (hd2 i k hi hr))
  rw [g2 t htn] at f2 f3
  refine ⟨_,?_,f2,f3⟩
  have he:JF σ ((t,Wn c.P x e xs)::us)=upd (JF σ us) t (Wn c.P x e xs):=by
   funext i
   simp only [JF]
   rw [hdead]
   by_cases hi:i=t
   ·subst hi
    rw [if_neg htn,ZY,ZY]
   ·rw [Zi _ _ hi,Zi _ _ hi,hdead]
  rw [he]
  exact f1
theorem ZeK {T:Odr} {P:Program} {o:Oper} {σ:Nat→AV} {t:Nat} {x:Bool} {e:TypeId} {xs:List (List AV)} {us:List (Nat×AV)} (ho:o.op = .move (.tmp t)∨o.op = .assign (.tmp t)) (ht:σ t = .own x e xs)
  (hus:(x=false∧us = [])∨J9 T σ t us) (hmv:x=true→Mv P e xs):KQ T P o σ (.own x e xs) ((t,Wn P x e xs)::us) []:=by
 intro c hc σ' tm w lim X hid hag hT hsim next Q hn
 have ht':σ' t = .own x e xs:=by rw [hag t (by simp),ht]
 obtain ⟨X',h1,h2,h3⟩:=hsim.freeAll (us:=us) ht' (hus.imp id fun h=>h.all hT)
 rw [hc] at h1
 refine Zk (v:=tm.getD t undef) (w':=w) ?_ (hn _ w (Z4 h1 h2 h3 fun hx=>.mv (by rw [hc];exact hmv hx)))
 rcases ho with ho | ho<;>simp [execOp,ho,Act.eval]
theorem Zl1 {P:Program} {o:Oper} {σ:Nat→AV} {x:Bool} {e:TypeId} (ho:o.op = .assign (.const (.slice none 0 0))):JK P o σ (.own x e []) [] []:=by
 intro c hc σ' tm w lim X hid hag hsim next Q hn
 refine Zk (v:=.slice none 0 0) (w':=w) (by simp [execOp,ho,Act.eval]) (hn _ w (Z4 (ob:=none) hsim (.inl ⟨[],World.ownsRow_nil _ 0 e _,rfl,by simp,by simp,by simp,by simp⟩) (by simp) fun _=>.none rfl))
theorem ZhY {P:Program} {o:Oper} {σ:Nat→AV} {t:Nat} {vs:List AV} (ho:o.op = .move (.tmp t)) (ht:σ t = .tuple vs):JK P o σ (.tuple vs) [(t,.gone)] []:=by
 intro c hc σ' tm w lim X hid hag hsim next Q hn
 have ht':σ' t = .tuple vs:=by rw [hag t (by simp),ht]
 have htn:t < c.nt:=by
  rcases Nat.lt_or_ge t c.nt with hlt | hge
  ·exact hlt
  ·have:=hsim.out t hge;rw [ht'] at this;rcases this with h0 | h0<;>cases h0
 have h1:Sim c (upd σ' t .gone) tm w lim (W2 X t YC):=hsim.weaken (k:=0) htn (fun cs hcs=>by rw [ht'] at hcs;cases hcs) (hsim.noRefs fun k=>by rw [ht'];rfl) rfl (fun i q hq=>by rcases hq with hq | ⟨_,hq⟩ <;> cases hq) trivial
 have hr:=hsim.rel t
 rw [ht'] at hr
 obtain ⟨us,g1,g2,g3⟩:=hr
 refine Zk (v:=tm.getD t undef) (w':=w) (by simp [execOp,ho,Act.eval]) (hn _ w ?_)
 cases hdst:o.dst with
 | none => exact ⟨lim, _, h1⟩
 | some d =>
  intro hd hm
  refine ⟨lim,_,h1.putRow (X t) (ZT.refl w lim (fun _=>False)) (fun _ hs=>hs.elim) hd (tm':=tm.setIfInBounds d (tm.getD t undef)) (by simp) (fun i hi=>ZZ tm d i _ hi) (.inl (ZL hm).1) (fun i q hi hr=>(h1.noRefs (ZL hm).none i q hi hr).elim) ?_ (fun k b hk=>⟨(hsim.ours t k b hk).1,(hsim.ours t k b hk).2,fun i j _ hij=>?_⟩) (fun k k' b hk hk'=>(hsim.dist t k t k' b hk hk').2)⟩
  ·rw [J5 tm d _ (by rw [hsim.size];exact hd)]
   refine ⟨us,g1,g2,?_⟩
   rw [Zs]
   exact g3
  ·by_cases hi:i=t
   ·subst hi;rw [Zs] at hij;cases hij
   ·rw [Zw X YC hi] at hij
    exact hi (hsim.dist i j t k b hij hk).1
theorem Zaf {P:Program} {o:Oper} {σ:Nat→AV} {t i:Nat} {vs:List AV} {x:AV} (ho:o.op = .extract (.tmp t) i) (ht:σ t = .tuple vs) (hx:vs[i]? = some x) (hp:x.plain=true) (hnp:∀ d p,x≠.ptr d p) (hne:∀ cs,x≠.eptr cs) (hnd:x≠.dead) (hng:x≠.gone):JK P o σ x [] []:=by
 intro c hc σ' tm w lim X hid hag hsim next Q hn
 have ht':σ' t = .tuple vs:=by rw [(hid t (Zu (o:=o) (x:=.tmp t) (t:=t) (by rw [ho];simp [Op.operands]) rfl)).eq fun cs e=>(by rw [ht] at e;cases e),ht]
 have hr:=hsim.rel t
 rw [ht'] at hr
 obtain ⟨us,g1,g2,g3⟩:=hr
 have hlt:i < us.length:=by rw [g2];exact (List.getElem?_eq_some_iff.1 hx).1
 have hu:=List.getElem?_eq_getElem hlt
 have hc3:=g3 i x _ hx hu
 refine Zk (v:=us[i]) (w':=w) ?_ (hn _ w (Zy hsim hp (k:=0) ?_))
 ·have hev:Act.eval ⟨tm,[]⟩ (.tmp t) = .tuple us.toArray:=g1
  simp [execOp,ho,hev,Instr.extract,hlt]
 ·cases x<;>first | (simp [AV.plain] at hp;done) | (exact (hnp _ _ rfl).elim) | (exact (hne _ rfl).elim) | (exact (hnd rfl).elim) | (exact (hng rfl).elim) | (have hz:Rep w lim _ _:=hc3;cases hz;done) | exact hc3
def Zp0 (P:Program) (x:Bool) (e:TypeId) (xs:List (List AV)):AV:=match x with | true=>.gone | false=>.slice false (P.cellsOf e) xs
theorem Zan {P:Program} {o:Oper} {σ:Nat→AV} {t i:Nat} {vs:List AV} {x:Bool} {e:TypeId} {xs:List (List AV)} (ho:o.op = .extract (.tmp t) i) (ht:σ t = .tuple vs) (hx:vs[i]? = some (.own x e xs)) (hmv:x=true→Mv P e xs) :
  JK P o σ (.own x e xs) [(t,.tuple (vs.set i (Zp0 P x e xs)))] []:=by
 intro c hc σ' tm w lim X hid hag hsim next Q hn
 have ht':σ' t = .tuple vs:=by rw [hag t (by simp),ht]
 have htn:t < c.nt:=by
  rcases Nat.lt_or_ge t c.nt with hlt | hge
  ·exact hlt
  ·have:=hsim.out t hge;rw [ht'] at this;rcases this with h0 | h0<;>cases h0
 have hr:=hsim.rel t
 rw [ht'] at hr
 obtain ⟨us,g1,g2,g3⟩:=hr
 have hlt:i < us.length:=by rw [g2];exact (List.getElem?_eq_some_iff.1 hx).1
 have hu:=List.getElem?_eq_getElem hlt
 have hown:Z9 c.P w lim x e xs us[i] (X t (i+1)):=g3 i _ _ hx hu
 have h1:Sim c (upd σ' t (.tuple (vs.set i (Zp0 P x e xs)))) tm w lim (W2 X t fun k=>if k=i+1 then none else X t k):=by
  refine hsim.putRow (S:=fun _=>False) _ (ZT.refl w lim _) (fun _ hs=>hs.elim) htn rfl (fun j _=>rfl) (.inl fun cs hcs=>by rw [ht'] at hcs;cases hcs) (fun i q hi hr=>(hsim.noRefs (fun k=>by rw [ht'];rfl) i q hi hr).elim) ?_ (fun k b hk=>?_) (fun k k' b hk hk'=>?_)
  ·refine ⟨us,g1,by simp [g2],fun j y u hy hju=>?_⟩
   rw [Zs]
   by_cases hji:j=i
   ·subst hji
    rw [List.getElem?_set_self (by omega)] at hy
    simp only [Option.some.injEq] at hy
    subst hy
    rw [hu] at hju
    simp only [Option.some.injEq] at hju
    subst hju
    cases x with
    | true => trivial
    | false =>
     have:=Z9.rep hown false rfl
     rw [hc] at this
     exact this
   ·rw [List.getElem?_set_ne (fun h=>hji h.symm)] at hy
    rw [if_neg (by omega)]
    exact g3 j y u hy hju
  ·split at hk
   ·cases hk
   ·exact ⟨(hsim.ours t k b hk).1,(hsim.ours t k b hk).2,fun a j ha hj=>ha (hsim.dist a j t k b hj hk).1⟩
  ·split at hk<;>split at hk'
   ·omega
   ·cases hk
   ·cases hk'
   ·exact (hsim.dist t k t k' b hk hk').2
 refine Zk (v:=us[i]) (w':=w) ?_ (hn _ w (Z4 h1 hown (fun b hb=>⟨(hsim.ours t _ b hb).2,fun a j haj=>?_⟩) fun hx=>.mv (by rw [hc];exact hmv hx)))
 ·have hev:Act.eval ⟨tm,[]⟩ (.tmp t) = .tuple us.toArray:=g1
  simp [execOp,ho,hev,Instr.extract,hlt]
 ·by_cases ha:a=t
  ·subst ha
   rw [Zs] at haj
   split at haj
   ·cases haj
   ·rename_i hne
    exact hne (hsim.dist a j a (i+1) b haj hb).2
  ·rw [Zw X _ ha] at haj
   exact ha (hsim.dist a j t (i+1) b haj hb).1
theorem ZB {y:AV} {k:Nat} {e:TypeId} {xs:List (List AV)} (h:Zr y k=some (e,xs)) :
  (y = .own true e xs∧k=0)∨(∃ cs q,y = .box cs∧k=q+1∧cs[q]? = some (.own true e xs))∨∃ cs q,y = .gbox cs∧k=q+1∧cs[q]? = some (.own true e xs):=by
 unfold Zr at h
 split at h
 ·simp only [Option.some.injEq,Prod.mk.injEq] at h
  obtain ⟨rfl,rfl⟩:=h
  exact .inl ⟨rfl,rfl⟩
 ·rename_i cs q
  split at h
  ·rename_i e' xs' hc
   simp only [Option.some.injEq,Prod.mk.injEq] at h
   obtain ⟨rfl,rfl⟩:=h
   exact .inr (.inl ⟨cs,q,rfl,rfl,hc⟩)
  ·cases h
 ·rename_i cs q
  split at h
  ·rename_i e' xs' hc
   simp only [Option.some.injEq,Prod.mk.injEq] at h
   obtain ⟨rfl,rfl⟩:=h
   exact .inr (.inr ⟨cs,q,rfl,rfl,hc⟩)
  ·cases h
 ·cases h
theorem K6 {c:Ctx} {σ:Nat→AV} {tm:Array Value} {w:World} {lim:Nat→Nat} {X:Nat→Nat→Option Nat} (h:Sim c σ tm w lim X) {d k:Nat} {e:TypeId} {xs:List (List AV)} (hp:Zr (σ d) k=some (e,xs)) :
  ∃ v,Z9 c.P w lim true e xs v (X d k):=by
 have hr:=h.rel d
 rcases ZB hp with ⟨h1,rfl⟩ | ⟨cs,q,h1,rfl,h2⟩ | ⟨cs,q,h1,rfl,h2⟩
 ·rw [h1] at hr
  exact ⟨_,hr⟩
 ·rw [h1] at hr
  obtain ⟨b,arr,t,g1,g2,g3,g4,g5,g6,g7⟩:=(show ZG c.P w lim (X d) cs _ from hr)
  have hlt:=(List.getElem?_eq_some_iff.1 h2).1
  exact ⟨arr[q]'(by omega),g7 q _ _ h2 (Array.getElem?_eq_getElem (by omega))⟩
 ·rw [h1] at hr
  obtain ⟨v',b,arr,t,g1,g2,g3,g4,g5,g6,g7⟩:=hr
  have hlt:=(List.getElem?_eq_some_iff.1 h2).1
  exact ⟨arr[q]'(by omega),g7 q _ _ h2 (Array.getElem?_eq_getElem (by omega))⟩
theorem Vb {P:Program} {w:World} {lim:Nat→Nat} {e:TypeId} {xs:List (List AV)} {v:Value} {b:Nat} (h:Z9 P w lim true e xs v (some b)) (hm:Zo P e=false∨∃ arr t fz,w.heap[b]? = some (.cells arr t fz)) :
  ∃ arr cap,v = .slice (some ⟨b,0,none⟩) xs.length cap∧w.heap[b]? = some (.cells arr e (0,0))∧lim b=0∧xs.length≤cap∧cap≤maxLen∧arr.size=cap*P.cellsOf e∧
   (∀ x∈xs,x.length=P.cellsOf e)∧(∀ x∈xs,∀ z∈x,z.isCell=true)∧∀ (j:Nat) (z:AV) (u:Value),xs.flatten[j]? = some z→arr[j]? = some u→Rep w lim z u:=by
 rcases h with ⟨us,h1,h2,h3,h4,h5,h6⟩ | ⟨_,h,_⟩ | ⟨_,h,_,_,_,_,_,_,hb,_,hh,_⟩
 ·rcases h1.2 with ⟨hv,hn⟩ | ⟨g,cap,cur,hv,hbg,hg,hnc,hcm,hcs,htake⟩
  ·rw [hv] at h2;cases h2
  ·have hgb:g=b:=by rw [hv] at h2;exact Option.some.inj h2
   subst hgb
   refine ⟨cur,cap,hv,hg,by rw [h3 g rfl];rfl,hnc,hcm,hcs,h4,h5,fun j z u hz hu=>h6 j z u hz ?_⟩
   have hj:=(List.getElem?_eq_some_iff.1 hz).1
   rw [Zl xs _ h4] at hj
   rw [← htake,List.getElem?_take,if_pos hj]
   simpa using hu
 ·cases h
 ·rcases hm with hm | ⟨_,_,_,hm⟩
  ·rw [hm] at h;cases h
  ·cases hb;rw [hm] at hh;cases hh
theorem WS {P:Program} {w:World} {lim:Nat→Nat} {e:TypeId} {xs:List (List AV)} {b cap:Nat} {arr:Array Value} (h1:w.heap[b]? = some (.cells arr e (0,0))) (h2:lim b=0) (h3:xs.length≤cap) (h4:cap≤maxLen)
  (h5:arr.size=cap*P.cellsOf e) (h6:∀ x∈xs,x.length=P.cellsOf e) (h7:∀ x∈xs,∀ z∈x,z.isCell=true) (h8:∀ (j:Nat) (z:AV) (u:Value),xs.flatten[j]? = some z→arr[j]? = some u→Rep w lim z u) :
  Z9 P w lim true e xs (.slice (some ⟨b,0,none⟩) xs.length cap) (some b):=by
 have hle:xs.length*P.cellsOf e≤cap*P.cellsOf e:=Nat.mul_le_mul_right _ h3
 refine .inl ⟨arr.toList.take (xs.length*P.cellsOf e),⟨?_,.inr ⟨b,cap,arr,rfl,Nat.zero_le _,h1,h3,h4,h5,rfl⟩⟩,rfl,fun b' hb'=>?_,h6,h7,fun j z u hz hu=>h8 j z u hz ?_⟩
 ·have hal:arr.toList.length=cap*P.cellsOf e:=by simpa using h5
  rw [List.length_take,hal]
  exact Nat.min_eq_left hle
 ·cases hb'
  rw [if_pos rfl]
  exact h2
 ·rw [List.getElem?_take] at hu
  split at hu
  ·simpa using hu
  ·cases hu
end Go.AM
end

section
namespace Go.AM
theorem Zdm (cs:List AV) (off:Nat) (x:AV) (h:off < cs.length):cs.take off++[x]++cs.drop (off+1)=cs.set off x:=by
 rw [List.set_eq_take_append_cons_drop,if_pos h]
 simp
theorem Zee (σ:Nat→AV) (us:List (Nat×AV)) (d:Nat) (x:AV):JF σ (us++[(d,x)])=upd (JF σ us) d x:=by
 induction us generalizing σ with
 | nil => rfl
 | cons u us ih => obtain ⟨e, y⟩ := u; simp only [List.cons_append, JF]; exact ih _
theorem Zje:∀ (us:List (Nat×AV)) (σ:Nat→AV) (i:Nat),JF σ us i=σ i∨∃ u∈us,JF σ us i=u.2
 | [], _, _ => .inl rfl
 | (d, x) :: us, σ, i => by
  simp only [JF]
  rcases Zje us (upd σ d x) i with h | ⟨v,hv,h⟩
  ·by_cases hi:i=d
   ·subst hi
    exact .inr ⟨(i,x),by simp,by rw [h,ZY]⟩
   ·exact .inl (by rw [h,Zi _ _ hi])
  ·exact .inr ⟨v,by simp [hv],h⟩
theorem Zka (us:List (Nat×AV)) (σ:Nat→AV) (d:Nat) (h:d∉us.map (·.1)):JF σ us d=σ d:=by
 induction us generalizing σ with
 | nil => rfl
 | cons u us ih =>
  obtain ⟨e,y⟩:=u
  simp only [List.map_cons,List.mem_cons,not_or] at h
  simp only [JF]
  rw [ih _ h.2,Zi _ _ h.1]
theorem Zj9 {σ:Nat→AV} {t d:Nat} {us:List (Nat×AV)} {cs:List AV} (hd:σ d = .box cs) (h:us = []∨Ku σ t us):d∉us.map (·.1):=by
 rcases h with rfl | ⟨h,_⟩
 ·simp
 ·intro hm
  obtain ⟨u,hu,rfl⟩:=List.mem_map.1 hm
  obtain ⟨_,_,k,hk⟩:=h u hu
  exact (Vm hk).1 cs hd
theorem Zb8 {T':Odr} {P:Program} {o:Oper} {σ:Nat→AV} {T:TypeId} {a:Operand} {t d off:Nat} {cs:List AV} {x:Bool} {e:TypeId} {xs:List (List AV)} {us:List (Nat×AV)} (ho:o.op = .store T a (.tmp t)) (ha:Zm P σ a = .ptr d off) (hd:σ d = .box cs)
  (ht:σ t = .own x e xs) (hn:P.cellsOf T=1) (hfit:off < cs.length) (hnr:Zbc ((cs.drop off).take 1)∨J9 T' σ d []) (hus:(x=false∧us = [])∨J9 T' σ t us) :
  KQ T' P o σ .dead (((t,Wn P x e xs)::us)++[(d,.box (cs.set off (.own x e xs)))]) [d]:=by
 intro c hc σ' tm w lim X hid hag hT hsim next Q hnx
 have hga:Zm P σ' a=Zm P σ a:=ZF fun t ht=>hid t (by simp [Zu (o:=o) (x:=a) (by rw [ho];simp [Op.operands]) ht])
 have hd':σ' d = .box cs:=by rw [hag d (by simp),hd]
 have ht':σ' t = .own x e xs:=by rw [hag t (by simp),ht]
 have hdt:d≠t:=fun h=>by rw [h,ht'] at hd';cases hd'
 have hus':(x=false∧us = [])∨Ku σ' t us:=hus.imp id fun h=>h.all hT
 have hva:=YF hc hsim ha hga
 rw [← hc] at hva
 obtain ⟨b,h1,h2,h3⟩:=K5 hsim hd' hva
 obtain ⟨i,hi⟩:=ZC (P:=P) (T:=T) (by omega)
 have hrd:=hsim.rel d
 rw [hd'] at hrd
 obtain ⟨b9,_,_,m1,m2,_⟩:=(show ZG c.P w lim (X d) cs _ from hrd)
 obtain ⟨X1,k1,k2,k3⟩:=hsim.freeAll (us:=us) ht' hus'
 have hd1:JF σ' ((t,Wn c.P x e xs)::us) d = .box cs:=by
  rw [Zka _ _ _ ?_,hd']
  simp only [List.map_cons,List.mem_cons,not_or]
  exact ⟨hdt,Zj9 hd' (hus'.imp (fun h=>h.2) id)⟩
 have hr1:=k1.rel d
 rw [hd1] at hr1
 obtain ⟨b0,arr,ty,g1,g2,g3,g4,g5,g6,g7⟩:=(show ZG c.P w lim (X1 d) cs _ from hr1)
 have hb0:b0=b:=by
  rw [h1] at m1
  rw [m2] at g2
  simp only [Value.pointer.injEq,Option.some.injEq,Addr.mk.injEq,and_true] at g2
  have:=Option.some.inj m1
  omega
 subst hb0
 have hset:=k1.setCells (off:=off) (vc:=[.own x e xs]) (us:=[tm.getD t undef]) (fun i=>if i=0 then X t 0 else none) hd1 g1 (by simp;omega) rfl
  (fun z hz=>by simp at hz;subst hz;exact .inr (.inl ⟨x,e,xs,rfl⟩)) (fun j z u hz hu=>by
   cases j with
   | zero =>
    simp only [List.getElem?_cons_zero,Option.some.injEq] at hz hu
    subst hz
    subst hu
    show Z9 c.P w lim x e xs _ (if 0=0 then X t 0 else none)
    rw [if_pos rfl]
    exact k2
   | succ j => simp at hz) g3 (fun k h1 h2 i hi hr => by
   rcases hnr with hnr | hdr
   ·exact Zbw k1 hd1 hnr h1 (by simpa using h2) hr
   ·rcases Zje ((t,Wn c.P x e xs)::us) σ' i with h | ⟨u,hu,h⟩
    ·rw [h] at hr
     have:=(hdr.all hT).2 i (k+1) hi hr
     simp at this
    ·rw [h] at hr
     rcases List.mem_cons.1 hu with rfl | hu
     ·cases x<;>rcases hr with hr | ⟨_,hr⟩ <;> cases hr
     ·rcases hus' with ⟨_,rfl⟩ | hda
      ·simp at hu
      ·rw [(hda.1 u hu).2.1] at hr
       rcases hr with hr | ⟨_,hr⟩ <;> cases hr) (fun j b' hb'=>by
   by_cases hj:j=0
   ·subst hj
    rw [if_pos rfl] at hb'
    exact ⟨by simp,(k3 b' hb').1,(hsim.ours t 0 b' hb').1,(k3 b' hb').2,fun i' hi'=>by
     by_cases hz:i'=0
     ·exact hz.symm
     ·rw [if_neg hz] at hi';cases hi'⟩
   ·rw [if_neg hj] at hb';cases hb')
 refine YT (w':=w.setRow b0 (arr.toList.take off++[tm.getD t undef]++arr.toList.drop (off+1)).toArray) ?_ (hnx undef _ ?_)
 ·have hcell:(tm.getD t undef).cells = [tm.getD t undef].toArray∧(tm.getD t undef).oneCell'=true:=by
   rcases k2 with ⟨us,hr,_⟩ | ⟨_,_,b1,hv⟩ | ⟨_,_,b1,_,_,_,_,_,_,hv,_⟩
   ·rcases hr.2 with ⟨hv,_⟩ | ⟨g,cap,cur,hv,_⟩ <;> rw [hv]<;>exact ⟨rfl,rfl⟩
   ·rw [hv];exact ⟨rfl,rfl⟩
   ·rw [hv];exact ⟨rfl,rfl⟩
  have hst:=KB (P:=P) (T:=T) (w:=w) (b:=b0) (off:=off) (v:=tm.getD t undef) hi hcell.1 (by simp [hn]) g3 (by simp [g4];omega) (fun u hu=>by
   simp at hu
   subst hu
   simpa using hcell.2)
  have hev:Act.eval ⟨tm,[]⟩ (.tmp t)=tm.getD t undef:=rfl
  simp only [execOp,ho,h2,hev,Sem.run_bind,hst,Result.andThen_ok,Sem.run_pure]
  rfl
 ·have hl:cs.take off++[.own x e xs]++cs.drop (off + [AV.own x e xs].length)=cs.set off (.own x e xs):=Zdm cs off _ hfit
  rw [hl,hc] at hset
  rw [Zee]
  exact Zy hset rfl (k:=0) trivial
theorem Zd1 {P:Program} {o:Oper} {σ:Nat→AV} {T:TypeId} {a:Operand} {d off:Nat} {cs:List AV} {e:TypeId} {xs:List (List AV)} (ho:o.op = .load T a) (hT:JD P T=some false)
  (ha:Zm P σ a = .ptr d off) (hd:σ d = .box cs) (hx:cs[off]? = some (.own true e xs)):JK P o σ (.mref d (off+1)) [] [d]:=by
 refine Zv [d] rfl fun c hc σ' tm w lim X hg hfp hsim=>?_
 rw [ho] at hg
 have hv:=YF hc hsim ha (hg a (by simp [Op.operands]))
 have hd':σ' d = .box cs:=by rw [hfp d (by simp),hd]
 rw [← hc] at hv
 obtain ⟨b,h1,h2,h3⟩:=K5 hsim hd' hv
 have hlt:off < cs.length:=(List.getElem?_eq_some_iff.1 hx).1
 obtain ⟨b0,arr,ty,g1,g2,g3,g4,g5,g6,g7⟩:=h3
 have hb0:b0=b:=by rw [g1] at h1;exact Option.some.inj h1
 subst hb0
 have hu:arr[off]? = some arr[off]:=Array.getElem?_eq_getElem (by omega)
 refine ⟨arr[off],?_,e,xs,by rw [hd'];simp only [Zr,hx],?_⟩
 ·have hcell:w.cell? ⟨b0,off,none⟩=some arr[off]:=by rw [ZS g3];exact hu
  simp [execOp,ho,h2,JW hT hcell]
 ·have:=Z9.sliceV (show Z9 c.P w lim true e xs arr[off] (X d (off+1)) from g7 off _ _ hx hu)
  rw [hc] at this
  exact this
theorem ZdT {P:Program} {o:Oper} {σ:Nat→AV} {T:TypeId} {a:Operand} {d off:Nat} {cs:List AV} {e:TypeId} {xs:List (List AV)} (ho:o.op = .load T a) (hT:JD P T=some false)
  (ha:Zm P σ a = .ptr d off) (hd:σ d = .box cs) (hx:cs[off]? = some (.own false e xs)):JK P o σ (.own false e xs) [(d,.box (cs.set off (.slice false (P.cellsOf e) xs)))] [d]:=by
 intro c hc σ' tm w lim X hid hag hsim next Q hn
 have hg:Zm P σ' a=Zm P σ a:=ZF fun t ht=>hid t (by simp [Zu (o:=o) (x:=a) (by rw [ho];simp [Op.operands]) ht])
 have hv:=YF hc hsim ha hg
 have hd':σ' d = .box cs:=by rw [hag d (by simp),hd]
 rw [← hc] at hv
 obtain ⟨b,h1,h2,h3⟩:=K5 hsim hd' hv
 have hlt:off < cs.length:=(List.getElem?_eq_some_iff.1 hx).1
 have hrel:=hsim.rel d
 rw [hd'] at hrel
 obtain ⟨b0,arr,ty,g1,g2,g3,g4,g5,g6,g7⟩:=(show ZG c.P w lim (X d) cs _ from hrel)
 have hb0:b0=b:=by rw [g1] at h1;exact Option.some.inj h1
 subst hb0
 have hlt':off < arr.size:=by omega
 have hu:arr[off]? = some arr[off]:=Array.getElem?_eq_getElem hlt'
 have hown:Z9 c.P w lim false e xs arr[off] (X d (off+1)):=g7 off _ _ hx hu
 have hdn:d < c.nt:=by
  rcases Nat.lt_or_ge d c.nt with hlt | hge
  ·exact hlt
  ·have:=hsim.out d hge;rw [hd'] at this;rcases this with h0 | h0<;>cases h0
 have h1':Sim c (upd σ' d (.box (cs.set off (.slice false (P.cellsOf e) xs)))) tm w lim (W2 X d fun k=>if k=off+1 then none else X d k):=by
  refine hsim.putRow (S:=fun _=>False) _ (ZT.refl w lim _) (fun _ hs=>hs.elim) hdn rfl (fun j _=>rfl) (.inr ⟨⟨_,rfl⟩,by rw [if_neg (by omega)],rfl⟩) (fun i q hi hr=>?_) ?_ (fun k b hk=>?_) (fun k k' b hk hk'=>?_)
  ·obtain ⟨p,hp⟩:=K1 hsim hr
   rw [hd'] at hp
   cases q with
   | zero => simp [Zr] at hp
   | succ q =>
    have hqo:q≠off:=by
     intro he
     subst he
     simp [Zr,hx] at hp
    refine ⟨fun e2 xs2 hex=>⟨xs2,?_,rfl⟩,by rw [if_neg (by omega)],fun _ _=>.of rfl⟩
    rw [hd'] at hex
    simp only [Zr,List.getElem?_set_ne (Ne.symm hqo)] at hex ⊢
    exact hex
  ·refine ⟨b0,arr,ty,by rw [Zs];exact g1,g2,g3,by simp [g4],g5,fun y hy=>?_,fun j y u hy hju=>?_⟩
   ·obtain ⟨j,hj⟩:=List.mem_iff_getElem?.1 hy
    by_cases hji:j=off
    ·subst hji
     rw [List.getElem?_set_self hlt] at hj
     simp only [Option.some.injEq] at hj
     subst hj
     exact .inl rfl
    ·rw [List.getElem?_set_ne (fun h=>hji h.symm)] at hj
     exact g6 y (List.mem_of_getElem? hj)
   ·rw [Zs]
    by_cases hji:j=off
    ·subst hji
     rw [List.getElem?_set_self hlt] at hy
     simp only [Option.some.injEq] at hy
     subst hy
     rw [hu] at hju
     simp only [Option.some.injEq] at hju
     subst hju
     have:=Z9.rep hown false rfl
     rw [hc] at this
     exact this
    ·rw [List.getElem?_set_ne (fun h=>hji h.symm)] at hy
     rw [if_neg (by omega)]
     exact g7 j y u hy hju
  ·split at hk
   ·cases hk
   ·exact ⟨(hsim.ours d k b hk).1,(hsim.ours d k b hk).2,fun a j ha hj=>ha (hsim.dist a j d k b hj hk).1⟩
  ·split at hk<;>split at hk'
   ·omega
   ·cases hk
   ·cases hk'
   ·exact (hsim.dist d k d k' b hk hk').2
 refine Zk (v:=arr[off]) (w':=w) ?_ (hn _ w (Z4 h1' hown (fun b hb=>⟨(hsim.ours d _ b hb).2,fun a j haj=>?_⟩) fun hx=>by cases hx))
 ·have hcell:w.cell? ⟨b0,off,none⟩=some arr[off]:=by rw [ZS g3];exact hu
  simp [execOp,ho,h2,JW hT hcell]
 ·by_cases ha:a=d
  ·subst ha
   rw [Zs] at haj
   split at haj
   ·cases haj
   ·rename_i hne
    exact hne (hsim.dist a j a (off+1) b haj hb).2
  ·rw [Zw X _ ha] at haj
   exact ha (hsim.dist a j d (off+1) b haj hb).1
theorem Zb5 {T':Odr} {P:Program} {o:Oper} {σ:Nat→AV} {T:TypeId} {a:Operand} {d off:Nat} {cs:List AV} {e:TypeId} {xs:List (List AV)} {us:List (Nat×AV)} (ho:o.op = .load T a) (hT:JD P T=some false)
  (ha:Zm P σ a = .ptr d off) (hd:σ d = .box cs) (hx:cs[off]? = some (.own true e xs)) (hus:J9 T' σ d us) (hmv:Mv P e xs):KQ T' P o σ (.own true e xs) (us++[(d,.box (cs.set off .gone))]) [d]:=by
 intro c hc σ' tm w lim X hid hag hT' hsim next Q hn
 have hg:Zm P σ' a=Zm P σ a:=ZF fun t ht=>hid t (by simp [Zu (o:=o) (x:=a) (by rw [ho];simp [Op.operands]) ht])
 have hv:=YF hc hsim ha hg
 have hd':σ' d = .box cs:=by rw [hag d (by simp),hd]
 rw [← hc] at hv
 obtain ⟨b,h1,h2,h3⟩:=K5 hsim hd' hv
 have hlt:off < cs.length:=(List.getElem?_eq_some_iff.1 hx).1
 have hda:=hus.all hT'
 obtain ⟨hd1,hd2⟩:=hda
 obtain ⟨X1,k1,k2⟩:=hsim.drops us fun u hu=>by
  obtain ⟨m0,m1,k,m3⟩:=hd1 u hu
  obtain ⟨p1,p2,p3⟩:=Vm m3
  exact ⟨m1,p2,W4 hsim (fun e=>by rw [e] at m3;rcases m3 with m3 | ⟨_,m3⟩ <;> cases m3) p3⟩
 have hdm:d∉us.map (·.1):=by
  intro hm
  obtain ⟨u,hu,rfl⟩:=List.mem_map.1 hm
  exact (hd1 u hu).1 rfl
 have hdead:∀ (σ:Nat→AV) (i:Nat),JF σ us i=if i∈us.map (·.1) then .dead else σ i:=fun σ i=>Ww us σ i fun u hu=>(hd1 u hu).2.1
 have hds:JF σ' us d = .box cs:=by rw [hdead,if_neg hdm,hd']
 have hnor:∀ i k,i≠d→Jg (JF σ' us i) d k→False:=fun i k hi hr=>by
  rw [hdead] at hr
  split at hr
  ·rcases hr with hr | ⟨_,hr⟩ <;> cases hr
  ·rename_i hm
   exact hm (hd2 i k hi hr)
 have hXd:X1 d=X d:=k2 d hdm
 have hrel:=k1.rel d
 rw [hds] at hrel
 obtain ⟨b0,arr,ty,g1,g2,g3,g4,g5,g6,g7⟩:=(show ZG c.P w lim (X1 d) cs _ from hrel)
 have hb0:b0=b:=by rw [hXd] at g1;rw [g1] at h1;exact Option.some.inj h1
 subst hb0
 have hlt':off < arr.size:=by omega
 have hu:arr[off]? = some arr[off]:=Array.getElem?_eq_getElem hlt'
 have hown:Z9 c.P w lim true e xs arr[off] (X1 d (off+1)):=g7 off _ _ hx hu
 have hdn:d < c.nt:=by
  rcases Nat.lt_or_ge d c.nt with hlt | hge
  ·exact hlt
  ·have:=hsim.out d hge;rw [hd'] at this;rcases this with h0 | h0<;>cases h0
 have h1':Sim c (upd (JF σ' us) d (.box (cs.set off .gone))) tm w lim (W2 X1 d fun k=>if k=off+1 then none else X1 d k):=by
  refine k1.putRow (S:=fun _=>False) _ (ZT.refl w lim _) (fun _ hs=>hs.elim) hdn rfl (fun j _=>rfl) (.inr ⟨⟨_,rfl⟩,by rw [if_neg (by omega)],rfl⟩) (fun i q hi hr=>(hnor i q hi hr).elim) ?_ (fun k b hk=>?_) (fun k k' b hk hk'=>?_)
  ·refine ⟨b0,arr,ty,by rw [Zs];exact g1,g2,g3,by simp [g4],g5,fun y hy=>?_,fun j y u hy hju=>?_⟩
   ·obtain ⟨j,hj⟩:=List.mem_iff_getElem?.1 hy
    by_cases hji:j=off
    ·subst hji
     rw [List.getElem?_set_self hlt] at hj
     simp only [Option.some.injEq] at hj
     subst hj
     exact .inr (.inr rfl)
    ·rw [List.getElem?_set_ne (fun h=>hji h.symm)] at hj
     exact g6 y (List.mem_of_getElem? hj)
   ·rw [Zs]
    by_cases hji:j=off
    ·subst hji
     rw [List.getElem?_set_self hlt] at hy
     simp only [Option.some.injEq] at hy
     subst hy
     exact trivial
    ·rw [List.getElem?_set_ne (fun h=>hji h.symm)] at hy
     rw [if_neg (by omega)]
     exact g7 j y u hy hju
  ·split at hk
   ·cases hk
   ·exact ⟨(k1.ours d k b hk).1,(k1.ours d k b hk).2,fun a j ha hj=>ha (k1.dist a j d k b hj hk).1⟩
  ·by_cases e1:k=off+1
   ·rw [if_pos e1] at hk;cases hk
   ·by_cases e2:k'=off+1
    ·rw [if_pos e2] at hk';cases hk'
    ·rw [if_neg e1] at hk
     rw [if_neg e2] at hk'
     exact (k1.dist d k d k' b hk hk').2
 rw [← Zee] at h1'
 refine Zk (v:=arr[off]) (w':=w) ?_ (hn _ w (Z4 h1' hown (fun b hb=>⟨(k1.ours d _ b hb).2,fun a j haj=>?_⟩) fun _=>.mv (by rw [hc];exact hmv)))
 ·have hcell:w.cell? ⟨b0,off,none⟩=some arr[off]:=by rw [ZS g3];exact hu
  simp [execOp,ho,h2,JW hT hcell]
 ·by_cases ha:a=d
  ·subst ha
   rw [Zs] at haj
   split at haj
   ·cases haj
   ·rename_i hne
    exact hne (k1.dist a j a (off+1) b haj hb).2
  ·rw [Zw X1 _ ha] at haj
   exact ha (k1.dist a j d (off+1) b haj hb).1
theorem Za7 {P:Program} {T ty e:TypeId} {i:TypeInfo} (hT:P.underlying T=some (.slice e)) (hi:P.info? e=some i) (w:World) (base:Option Addr) (n cap:Nat) (hn:n≤cap) (a:Option Addr) (c:Nat) :
  (Builtin.append_ #[T,T] ty #[.slice base n cap,.slice a 0 c]).run P w = .ok (.slice base n cap) w:=by
 cases a<;>cases base <;>
  simp [Builtin.append_,run_underlying hT,sizeOf,typeInfo,hi,Builtin.lenOf,hn,Builtin.firstCells,loadCells,loadCellsFrom,storeCells]
theorem ZnB {P:Program} {w:World} {lim:Nat→Nat} (x:Bool) {e:TypeId} {zs:List (List AV)} {us:List Value} {arr:Array Value} {cap:Nat} (h1:us.length=zs.length*P.cellsOf e) (h2:zs.length≤cap) (h3:cap≤maxLen)
  (h4:arr.size=cap*P.cellsOf e) (h5:arr.toList.take us.length=us) (h6:∀ x∈zs,x.length=P.cellsOf e) (h7:∀ x∈zs,∀ c∈x,c.isCell=true)
  (h8:∀ (j:Nat) (c:AV) (u:Value),zs.flatten[j]? = some c→us[j]? = some u→Rep w lim c u) (S:Nat→Prop) :
  Z9 P (w.drew.alloc (.cells arr e)) (fun b=>if b=w.heap.size then (if x=true then 0 else us.length) else lim b) x e zs (.slice (some ⟨w.heap.size,0,none⟩) zs.length cap) (some w.heap.size)∧
  ZT w lim (w.drew.alloc (.cells arr e)) (fun b=>if b=w.heap.size then (if x=true then 0 else us.length) else lim b) S:=by
 have hstep:ZT w lim (w.drew.alloc (.cells arr e)) (fun b=>if b=w.heap.size then (if x=true then 0 else us.length) else lim b) S:=by
  have:=YY w.drew lim arr e (if x=true then 0 else us.length) S
  exact ⟨this.os,this.tape,this.output,this.size,this.frz,this.blk,this.ext⟩
 refine ⟨.inl ⟨us,⟨h1,.inr ⟨w.heap.size,cap,arr,rfl,Nat.zero_le _,YN w.drew arr e,h2,h3,h4,by rw [← h1];exact h5⟩⟩,rfl,fun b hb=>?_,h6,h7,fun j c u hc hu=>(h8 j c u hc hu).mono hstep.ext⟩,hstep⟩
 simp only [Option.some.injEq] at hb
 subst hb
 exact if_pos rfl
def RdS (w:World) (lim:Nat→Nat) (s:Nat) (ys:List (List AV)) (v:Value):Prop:=
 (ys = []∧∃ a c,v = .slice a 0 c)∨∃ (b o cap:Nat) (us:List Value),v = .slice (some ⟨b,o,none⟩) ys.length cap∧(∀ e∈ys,e.length=s)∧(∀ e∈ys,∀ c∈e,c.isCell=true)∧us.length=ys.length*s∧
  (∀ (j:Nat) (u:Value),us[j]? = some u→w.cell? ⟨b,o+j,none⟩=some u)∧∀ (j:Nat) (c:AV) (u:Value),ys.flatten[j]? = some c→us[j]? = some u→Rep w lim c u
theorem RdS.of {w:World} {lim:Nat→Nat} {f:Bool} {s:Nat} {ys:List (List AV)} {v:Value} (h:Rep w lim (.slice f s ys) v):RdS w lim s ys v:=by
 cases h with
 | sliceN => exact .inl ⟨rfl, _, _, rfl⟩
 | sliceE _ => exact .inl ⟨rfl, _, _, rfl⟩
 | @sliceC _ _ _ b o ycap news hs hcl hf hle hlim hnl hncell hnr => exact .inr ⟨b, o, ycap, news, rfl, hs, hcl, hnl, hncell, hnr⟩
theorem RdS.form {w:World} {lim:Nat→Nat} {s:Nat} {ys:List (List AV)} {v:Value} (h:RdS w lim s ys v):∃ a c,v = .slice a ys.length c:=by
 rcases h with ⟨rfl,a,c,h⟩ | ⟨b,o,cap,us,h,_⟩
 ·exact ⟨a,c,h⟩
 ·exact ⟨_,_,h⟩
theorem Kh {P:Program} {T ty e:TypeId} {i:TypeInfo} {z:Value} {w:World} {lim:Nat→Nat} {xs ys:List (List AV)} {v yv:Value} {ob:Option Nat} {x:Bool} (hT:P.underlying T=some (.slice e)) (hi:P.info? e=some i)
  (hz:i.zero=some z) (hzs:z.cells.size=i.size) (hx:Z9 P w lim x e xs v ob) (hy:RdS w lim (P.cellsOf e) ys yv) (hroom:(xs.length+ys.length)*(i.bytes+1)≤Jc) (hnm:Zo P e=false) :
  ∃ v' w' lim' ob',(Builtin.append_ #[T,T] ty #[v,yv]).run P w = .ok v' w'∧Z9 P w' lim' x e (xs++ys) v' ob'∧ZT w lim w' lim' (fun b=>ob=some b)∧(ob'=ob∨ob'=some w.heap.size):=by
 have hsz:P.cellsOf e=i.size:=Zx hi
 have hb1:xs.length+ys.length≤1099511627776:=by
  have:(xs.length+ys.length)*1≤(xs.length+ys.length)*(i.bytes+1):=Nat.mul_le_mul_left _ (by omega)
  unfold Jc at hroom
  omega
 have hb2:(xs.length+ys.length)*i.bytes≤1099511627776:=by
  have:(xs.length+ys.length)*i.bytes≤(xs.length+ys.length)*(i.bytes+1):=Nat.mul_le_mul_left _ (by omega)
  unfold Jc at hroom
  omega
 have hvform:∃ base cap,v = .slice base xs.length cap∧xs.length≤cap:=by
  rcases hx.noMap hnm with ⟨us,hr,_⟩ | ⟨rfl,_,a,rfl⟩
  ·rcases hr.2 with ⟨hv,hn⟩ | ⟨g,cap,cur,hv,_,_,hnc,_⟩
   ·exact ⟨none,0,by rw [hv,hn],by omega⟩
   ·exact ⟨_,cap,hv,hnc⟩
  ·exact ⟨_,0,rfl,Nat.le_refl _⟩
 by_cases hm:ys = []
 ·subst hm
  obtain ⟨base,cap,hv,hle⟩:=hvform
  obtain ⟨a,c,hyv⟩:=hy.form
  refine ⟨v,w,lim,ob,?_,by rw [List.append_nil];exact hx,ZT.refl w lim _,.inl rfl⟩
  rw [hv,hyv]
  exact Za7 hT hi w base xs.length cap hle a c
 ·have hm0:0 < ys.length:=List.length_pos_iff.2 hm
  rcases hy with ⟨hye,_⟩ | ⟨b,o,ycap,news,rfl,hs,hcl,hnl,hncell,hnr⟩
  ·exact (hm hye).elim
  ·have hnews:∀ (j:Nat) (u:Value),news[j]? = some u→w.cell? ((⟨b,o,none⟩:Addr).add j)=some u:=fun j u hj=>by rw [JH];exact hncell j u hj
   have hcells:∀ x∈xs++ys,x.length=P.cellsOf e:=by
    intro x hx'
    rcases List.mem_append.1 hx' with h | h
    ·rcases hx.noMap hnm with ⟨_,_,_,_,h4,_⟩ | ⟨rfl,_⟩
     ·exact h4 x h
     ·simp at h
    ·exact hs x h
   have hcc:∀ x∈xs++ys,∀ c∈x,c.isCell=true:=by
    intro x hx'
    rcases List.mem_append.1 hx' with h | h
    ·rcases hx.noMap hnm with ⟨_,_,_,_,_,h5,_⟩ | ⟨rfl,_⟩
     ·exact h5 x h
     ·simp at h
    ·exact hcl x h
   have hnew1:∀ u∈news,u.oneCell'=true:=by
    intro u hu
    obtain ⟨j,hj⟩:=List.mem_iff_getElem?.1 hu
    have hlt:j < ys.flatten.length:=by
     rw [Zl ys _ hs,← hnl];exact (List.getElem?_eq_some_iff.1 hj).1
    have hcell:=hnr j _ u (List.getElem?_eq_getElem hlt) hj
    obtain ⟨y,hy1,hy2⟩:=List.mem_flatten.1 (List.getElem_mem hlt)
    exact hcell.oneCell (hcl y hy1 _ hy2)
   have both:∀ (us:List Value),us.length=xs.length*P.cellsOf e→(∀ x∈xs,x.length=P.cellsOf e)→(∀ (j:Nat) (c:AV) (u:Value),xs.flatten[j]? = some c→us[j]? = some u→Rep w lim c u)→
     ∀ (j:Nat) (c:AV) (u:Value),(xs++ys).flatten[j]? = some c→(us++news)[j]? = some u→Rep w lim c u:=by
    intro us hul hxl hur j c u hc hu
    have hfl:xs.flatten.length=us.length:=by rw [Zl xs _ hxl,hul]
    rw [List.flatten_append] at hc
    by_cases hj:j < us.length
    ·rw [List.getElem?_append_left (by omega)] at hc
     rw [List.getElem?_append_left hj] at hu
     exact hur j c u hc hu
    ·rw [List.getElem?_append_right (by omega),hfl] at hc
     rw [List.getElem?_append_right (by omega)] at hu
     exact hnr _ c u hc hu
   have grown:∀ (us:List Value) (old:Nat),us.length=xs.length*P.cellsOf e→(∀ (j:Nat) (c:AV) (u:Value),xs.flatten[j]? = some c→us[j]? = some u→Rep w lim c u)→(∀ x∈xs,x.length=P.cellsOf e)→
     ∃ lim',Z9 P (w.drew.alloc (.cells (us.toArray++news.toArray++Builtin.zeroCells z.cells (grownCap w (xs.length+ys.length) old e-(xs.length+ys.length))) e)) lim' x e (xs++ys) (.slice (some ⟨w.heap.size,0,none⟩) (xs.length+ys.length) (grownCap w (xs.length+ys.length) old e)) (some w.heap.size)∧
      ZT w lim (w.drew.alloc (.cells (us.toArray++news.toArray++Builtin.zeroCells z.cells (grownCap w (xs.length+ys.length) old e-(xs.length+ys.length))) e)) lim' (fun b=>ob=some b):=by
    intro us old hul hur hxl
    have hge:=grownCap_ge w (xs.length+ys.length) old e
    have hml:=grownCap_le_maxLen w (xs.length+ys.length) old e (by simp only [maxLen];omega)
    have:=ZnB (P:=P) (w:=w) (lim:=lim) x (e:=e) (zs:=xs++ys) (us:=us++news) (arr:=us.toArray++news.toArray++Builtin.zeroCells z.cells (grownCap w (xs.length+ys.length) old e-(xs.length+ys.length)))
     (cap:=grownCap w (xs.length+ys.length) old e) (by rw [List.length_append,List.length_append,hul,hnl,Nat.add_mul]) (by rw [List.length_append];exact hge) hml ?_ ?_ hcells hcc (both us hul hxl hur) (fun b=>ob=some b)
    ·have hla:(xs++ys).length=xs.length+ys.length:=List.length_append
     rw [hla] at this
     exact ⟨_,this.1,this.2⟩
    ·simp only [Array.size_append,List.size_toArray,size_zeroCells,hzs,hul,hnl,hsz,← Nat.add_mul]
     congr 1
     omega
    ·simp only [Array.toList_append]
     exact List.take_left
   rcases hx.noMap hnm with ⟨us,hr,hob,hlimo,hxl,hxc,hur⟩ | ⟨rfl,hob,b',hv⟩
   ·rcases hr.2 with ⟨hv,hn⟩ | ⟨g,cap,cur,hv,hbg,hg,hnc,hcm,hcs,htake⟩
    ·have hxe:xs = []:=List.eq_nil_of_length_eq_zero hn
     have hue:us = []:=List.eq_nil_of_length_eq_zero (by rw [hr.1,hn];simp)
     subst hxe
     subst hue
     have hrun:=run_append_nil (P:=P) w T ty e i z hT hi hz ⟨b,o,none⟩ ys.length ycap news (by rw [hnl,hsz]) hnews hm0 (by omega) (by simp only [List.length_nil,Nat.zero_add] at hb2;omega)
     obtain ⟨lim',h1,h2⟩:=grown [] 0 (by simp) (by simp) (by simp)
     simp only [List.length_nil,Nat.zero_add] at h1 h2
     have hemp:([] : List Value).toArray++news.toArray=news.toArray:=by simp
     rw [hemp] at h1 h2
     rw [hv]
     exact ⟨_,_,lim',_,hrun,h1,h2,.inr rfl⟩
    ·have hobg:ob=some g:=by rw [← hob,hv];rfl
     by_cases hroom':xs.length+ys.length≤cap
     ·have hfit:xs.length*i.size+news.length≤cur.size:=by rw [hnl,hcs,hsz,← Nat.add_mul];exact Nat.mul_le_mul_right _ hroom'
      have hrun:=run_append_room (P:=P) w T ty e i hT hi g xs.length cap cur hg ⟨b,o,none⟩ ys.length ycap news (by rw [hnl,hsz]) hnews hnew1 hroom' hfit
      have htake':cur.toList.take (xs.length*i.size)=us:=by rw [← hsz];exact htake
      rw [htake'] at hrun
      have hul:us.length=xs.length*i.size:=by rw [hr.1,hsz]
      have hstep:ZT w lim (w.setRow g (us++news++cur.toList.drop (xs.length*i.size+news.length)).toArray) (fun k=>if k=g then (if x=true then 0 else us.length+news.length) else lim k) (fun k=>ob=some k):=by
       refine ⟨rfl,rfl,rfl,by simp,fun a _=>V6 w g cur _ e hg a,fun k _ hk=>⟨setRow_other w g k _ (fun h=>hk (by rw [hobg,h])),if_neg (fun h=>hk (by rw [hobg,h]))⟩,fun k hk=>⟨?_,fun p u hp hu=>?_⟩⟩
       ·show lim k≤if k=g then (if x=true then 0 else us.length+news.length) else lim k
        split
        ·rename_i h;subst h;rw [hlimo k hobg];split<;>omega
        ·exact Nat.le_refl _
       ·by_cases h:k=g
        ·subst h
         have hp:p < us.length:=by
          rw [hlimo k hobg] at hp
          split at hp<;>omega
         rw [ZS (setRow_heap w k cur _ e (0,0) hg)]
         rw [ZS hg] at hu
         have h1:us[p]? = some u:=by
          rw [← htake',List.getElem?_take,if_pos (by omega)]
          simpa using hu
         rw [List.getElem?_toArray,List.append_assoc,List.getElem?_append_left hp]
         exact h1
        ·unfold World.cell? at hu ⊢
         rw [setRow_other w g k _ h]
         exact hu
      refine ⟨_,_,_,some g,by rw [hv];exact hrun,.inl ⟨us++news,⟨by rw [List.length_append,List.length_append,hul,hnl,hsz,Nat.add_mul],.inr ⟨g,cap,_,?_,Nat.zero_le _,setRow_heap w g cur _ e (0,0) hg,by rw [List.length_append];exact hroom',hcm,?_,?_⟩⟩,rfl,fun b' hb'=>?_,hcells,hcc,fun j c u hc hu=>(both us hr.1 hxl hur j c u hc hu).mono hstep.ext⟩,hstep,.inl hobg.symm⟩
      ·rw [List.length_append]
      ·simp only [List.size_toArray,List.length_append,List.length_drop,Array.length_toList]
       rw [hcs,hsz]
       rw [hcs,hsz] at hfit
       omega
      ·have:(xs++ys).length*P.cellsOf e=(us++news).length:=by rw [List.length_append,List.length_append,hul,hnl,hsz,Nat.add_mul]
       rw [this]
       exact List.take_left
      ·simp only [Option.some.injEq] at hb'
       subst hb'
       rw [List.length_append]
       exact if_pos rfl
     ·have holds:∀ (j:Nat) (u:Value),us[j]? = some u→w.cell? ((⟨g,0,none⟩:Addr).add j)=some u:=hr.cells (g:=g) (by rw [hv];rfl)
      have hrun:=run_append_grow (P:=P) w T ty e i z hT hi hz ⟨g,0,none⟩ xs.length cap us (by rw [hr.1,hsz]) holds ⟨b,o,none⟩ ys.length ycap news (by rw [hnl,hsz]) hnews (by omega) (by omega) (growslice_fits (by omega) (by omega))
      obtain ⟨lim',h1,h2⟩:=grown us cap hr.1 hur hxl
      exact ⟨_,_,lim',_,by rw [hv];exact hrun,h1,h2,.inr rfl⟩
   ·have hrun:=run_append_grow (P:=P) w T ty e i z hT hi hz b' 0 0 [] (by simp) (by simp) ⟨b,o,none⟩ ys.length ycap news (by rw [hnl,hsz]) hnews (by omega) (by omega) (growslice_fits (by omega) (by simp only [List.length_nil] at hb2;omega))
    obtain ⟨lim',h1,h2⟩:=grown [] 0 (by simp) (by simp) (by simp)
    exact ⟨_,_,lim',_,by rw [hv];exact hrun,h1,h2,.inr rfl⟩
end Go.AM
end

section
namespace Go.AM
theorem ZbT {P:Program} {o:Oper} {σ:Nat→AV} (x:Bool) {T e:TypeId} {len:Nat} {parts:Array (Nat×Operand)} {i:TypeInfo} {z:Value} {zc cs cs':List AV} (ho:o.op = .buildSlice T len parts)
  (hT:P.underlying T=some (.slice e)) (hi:P.info? e=some i) (hz:i.zero=some z) (hzc:W9 z.cells.toList=some zc) (hzs:z.cells.size=i.size) (hs0:0 < i.size) (hbig:len*i.size≤1048576)
  (hf:ZbJ (fun j=>some (j*i.size,i.size)) ((List.replicate len zc).flatten) (parts.toList.map fun p=>(p.1,Zm P σ p.2))=some cs)
  (hw:cs'.length=cs.length∧∀ (w:World) (lim:Nat→Nat) (us:List Value),J7 w lim cs us→J7 w lim cs' us):JK P o σ (.own x e (Wh i.size cs' len)) [] []:=by
 intro c hc σ' tm w lim X hid hag hsim next Q hn
 have hg:∀ p∈parts.toList,Zm P σ' p.2=Zm P σ p.2:=fun p hp=>ZF fun t ht=>hid t (by
  refine Zu (x:=p.2) ?_ ht
  rw [ho]
  simp only [Op.operands,List.mem_toArray]
  exact List.mem_map.2 ⟨p,hp,rfl⟩)
 obtain ⟨h1,h2⟩:=ZcN hc hsim parts hg
 have hz0:=Yw (YQ (w:=w) (lim:=lim) hzc) len
 obtain ⟨us',h3,h4⟩:=Zc5 (P:=P) (X:=X) (σ:=σ') (k:=0) _ _ _ _ _ hz0 h1 h2 hf
 have hzl:z.cells.toList.length=i.size:=by rw [← hzs];simp
 have hcl:cs.length=len*i.size:=by
  have hinv:∀ (parts:List (Nat×AV)) (cells out:List AV),ZbJ (fun j=>some (j*i.size,i.size)) cells parts=some out→out.length=cells.length:=by
   intro parts
   induction parts with
   | nil => intro cells out h; simp only [ZbJ, Option.some.injEq] at h; rw [h]
   | cons p parts ih =>
    intro cells out h
    simp only [ZbJ] at h
    split at h
    ·split at h
     ·rename_i hcond
      rw [ih _ _ h]
      simp
      omega
     ·cases h
    ·cases h
  rw [hinv _ _ _ hf]
  have hzcl:zc.length=i.size:=by rw [(YQ (w:=w) (lim:=lim) hzc).1,hzl]
  simp [hzcl]
 replace h4:=hw.2 _ _ _ h4
 have hcl':cs'.length=len*i.size:=by rw [hw.1,hcl]
 have hb:(Instr.buildSlice T len (parts.map fun p=>(p.1,Act.eval ⟨tm,[]⟩ p.2))).run P w = .ok (.slice (some ⟨w.heap.size,0,none⟩) len len) (w.alloc (.cells us'.toArray e)):=by
  have hnb:¬ (2^24 < len*i.size):=by omega
  by_cases hnz:len*i.size=0
  ·have hl0:len=0:=(Nat.mul_eq_zero.1 hnz).elim id fun h=>by omega
   subst hl0
   have hr0:Array.range 0 = #[]:=rfl
   simp only [Instr.buildSlice,Sem.run_bind,run_underlying hT,Result.andThen_ok,sizeOf,typeInfo,run_program,hi,Sem.run_pure,gt_iff_lt,Nat.zero_mul,Nat.not_lt_zero,if_false,if_true,hr0,Array.map_empty]
   simp only [List.replicate_zero,List.flatten_nil] at h3
   rw [h3]
   simp [newRow]
  ·have hrep:=replicate_zero z.cells.toList len
   rw [hzl,Array.toArray_toList] at hrep
   simp only [Instr.buildSlice,Sem.run_bind,run_underlying hT,Result.andThen_ok,sizeOf,typeInfo,run_program,hi,Sem.run_pure,gt_iff_lt,if_neg hnb,if_neg hnz,zeroValue,hz]
   rw [hrep,h3]
   simp [newRow]
 have hsz:P.cellsOf e=i.size:=Zx hi
 have hstep:=YY w lim us'.toArray e (if x=true then 0 else us'.length) (fun _=>False)
 have hel:(Wh i.size cs' len).length=len:=by simp [Wh]
 have hfl:=Zc9 i.size len cs' hcl'
 have h5:=h4.mono hstep.ext
 have hlu:us'.length=len*i.size:=by rw [← h4.1,hcl']
 have hlm:len≤maxLen:=by
  have:len*1≤len*i.size:=Nat.mul_le_mul_left _ hs0
  have:(1048576:Nat)≤maxLen:=by decide
  omega
 have key:Z9 P (w.alloc (.cells us'.toArray e)) (fun b=>if b=w.heap.size then (if x=true then 0 else us'.length) else lim b) x e (Wh i.size cs' len) (.slice (some ⟨w.heap.size,0,none⟩) (Wh i.size cs' len).length len) (some w.heap.size):=by
  refine .inl ⟨us',⟨by rw [hel,hsz,hlu],.inr ⟨w.heap.size,len,us'.toArray,rfl,Nat.zero_le _,YN w _ e,by rw [hel];exact Nat.le_refl _,hlm,by simp [hsz,hlu],by rw [hel,hsz,← hlu];simp⟩⟩,rfl,fun b hb=>?_,fun x hx=>?_,fun x hx y hy=>?_,fun j y u hy hu=>?_⟩
  ·simp only [Option.some.injEq] at hb
   subst hb
   exact if_pos rfl
  ·obtain ⟨j,hj,rfl⟩:=List.mem_map.1 hx
   have hj':j < len:=List.mem_range.1 hj
   have hm:j*i.size+i.size≤len*i.size:=by rw [← Nat.succ_mul];exact Nat.mul_le_mul_right _ hj'
   simp [hcl',hsz]
   omega
  ·refine h5.2.1 y ?_
   rw [← hfl]
   exact List.mem_flatten.2 ⟨x,hx,hy⟩
  ·rw [hfl] at hy
   exact h5.2.2 j y u hy hu
 rw [hel] at key
 have hw2:=hsim.world hstep fun _ hs=>hs.elim
 refine Zk (v:=.slice (some ⟨w.heap.size,0,none⟩) len len) (w':=w.alloc (.cells us'.toArray e)) (by simp only [execOp,ho,Sem.run_bind,hb,Result.andThen_ok,Sem.run_pure]) (hn _ _ (Z4 hw2 (by rw [hc];exact key) (fun b hb=>?_) fun _=>.cells fun b hb=>by cases hb;exact ⟨_,_,_,YN w _ e⟩))
 simp only [Option.some.injEq] at hb
 subst hb
 exact ⟨.inr hsim.frm.size,fun i j=>Ka hsim i j⟩
theorem ZbG {T':Odr} {P:Program} {o:Oper} {σ:Nat→AV} {cl:Call} {T e:TypeId} {i:TypeInfo} {z:Value} {t:Nat} {y:Operand} {x:Bool} {xs ys:List (List AV)} {us:List (Nat×AV)} {f:Bool} (ho:o.op = .call cl) (hcl:cl.callee = .builtin .append)
  (hargs:cl.args.toList = [.tmp t,y]) (hts:cl.argTypes.toList = [T,T]) (hT:P.underlying T=some (.slice e)) (hi:P.info? e=some i) (hz:i.zero=some z) (hzs:z.cells.size=i.size)
  (ht:σ t = .own x e xs) (hy:Zm P σ y = .slice f i.size ys) (hroom:(xs.length+ys.length)*(i.bytes+1)≤Jc) (hus:(x=false∧us = [])∨J9 T' σ t us) (hnm:Zo P e=false) :
  KQ T' P o σ (.own x e (xs++ys)) ((t,Wn P x e xs)::us) []:=by
 have hargs':cl.args = #[.tmp t,y]:=by apply Array.toList_inj.1;rw [hargs]
 have hts':cl.argTypes = #[T,T]:=by apply Array.toList_inj.1;rw [hts]
 intro c hc σ' tm w lim X hid hag hTx hsim next Q hn
 have hsz:P.cellsOf e=i.size:=Zx hi
 have hgy:Zm P σ' y=Zm P σ y:=ZF fun t ht=>hid t (by simp [Zu (o:=o) (x:=y) (by rw [ho];simp [Op.operands,Call.operands,hargs',hcl]) ht])
 have ht':σ' t = .own x e xs:=by rw [hag t (by simp),ht]
 obtain ⟨X1,h1,h2,h3⟩:=hsim.freeAll (us:=us) ht' (hus.imp id fun h=>h.all hTx)
 have hyv:Rep w lim (.slice f (P.cellsOf e) ys) (Act.eval ⟨tm,[]⟩ y):=by rw [hsz];exact YF hc hsim hy hgy
 rw [hc] at h2
 obtain ⟨v',w',lim',ob',r1,r2,r3,r4⟩:=Kh (ty:=o.type) hT hi hz hzs h2 (.of hyv) hroom hnm
 have hw:=h1.world r3 h3
 refine Zk (v:=v') (w':=w') ?_ (hn _ w' ?_)
 ·have hev:Act.eval ⟨tm,[]⟩ (.tmp t)=tm.getD t undef:=rfl
  simp only [execOp,ho,resolve,hcl,hargs',hts',List.map_toArray,List.map_cons,List.map_nil,Sem.run_bind,Sem.run_pure,Result.andThen_ok,invoke,builtin,hev,r1]
 ·rw [hc] at hw
  rw [← hc] at r2
  refine Z4 hw r2 (fun b hb=>?_) fun _=>.noMap (by rw [hc];exact hnm)
  rcases r4 with r4 | r4
  ·rw [r4] at hb;exact h3 b hb
  ·rw [r4] at hb
   simp only [Option.some.injEq] at hb
   subst hb
   exact ⟨.inr hsim.frm.size,fun i j=>Ka h1 i j⟩
theorem ZaJ {P:Program} {w:World} {lim:Nat→Nat} {x:Bool} {e:TypeId} {v:Value} {s:Nat} (h:Rep w lim (.slice true s []) v):Z9 P w lim x e [] v none:=by
 have key:∀ (y:AV),Rep w lim y v→y = .slice true s []→Z9 P w lim x e [] v none:=by
  intro y hy hye
  cases hy with
  | sliceN => exact .inl ⟨[], World.ownsRow_nil _ 0 e _, rfl, by simp, by simp, by simp, by simp⟩
  | @sliceE f s' a cap hf =>
   injection hye with h1 h2 h3
   have:=hf h1
   subst this
   exact .inr (.inl ⟨rfl,rfl,a,rfl⟩)
  | @sliceC f s' xs b o cap us hs hc hf hle hlim hus hcell hr =>
   injection hye with h1 h2 h3
   subst h3
   have:=hf h1
   simp at this
   subst this
   exact .inr (.inl ⟨rfl,rfl,_,rfl⟩)
  | val _ => cases hye
  | agg _ _ _ => cases hye
 exact key _ h rfl
theorem Zao {P:Program} {o:Oper} {σ:Nat→AV} (ex:Bool) {cl:Call} {T e:TypeId} {i:TypeInfo} {z:Value} {x y:Operand} {ys:List (List AV)} {f:Bool} {s:Nat} (ho:o.op = .call cl) (hcl:cl.callee = .builtin .append)
  (hargs:cl.args.toList = [x,y]) (hts:cl.argTypes.toList = [T,T]) (hT:P.underlying T=some (.slice e)) (hi:P.info? e=some i) (hz:i.zero=some z) (hzs:z.cells.size=i.size)
  (hx:Zm P σ x = .slice true s []) (hy:Zm P σ y = .slice f i.size ys) (hroom:(([] : List (List AV)).length+ys.length)*(i.bytes+1)≤Jc) (hnm:Zo P e=false) :
  JK P o σ (.own ex e ys) [] []:=by
 have hargs':cl.args = #[x,y]:=by apply Array.toList_inj.1;rw [hargs]
 have hts':cl.argTypes = #[T,T]:=by apply Array.toList_inj.1;rw [hts]
 intro c hc σ' tm w lim X hid hag hsim next Q hn
 have hsz:P.cellsOf e=i.size:=Zx hi
 have hgx:Zm P σ' x=Zm P σ x:=ZF fun t ht=>hid t (by simp [Zu (o:=o) (x:=x) (by rw [ho];simp [Op.operands,Call.operands,hargs',hcl]) ht])
 have hgy:Zm P σ' y=Zm P σ y:=ZF fun t ht=>hid t (by simp [Zu (o:=o) (x:=y) (by rw [ho];simp [Op.operands,Call.operands,hargs',hcl]) ht])
 have hxv:Z9 P w lim ex e [] (Act.eval ⟨tm,[]⟩ x) none:=ZaJ (s:=s) (YF hc hsim hx hgx)
 have hyv:Rep w lim (.slice f (P.cellsOf e) ys) (Act.eval ⟨tm,[]⟩ y):=by rw [hsz];exact YF hc hsim hy hgy
 obtain ⟨v',w',lim',ob',r1,r2,r3,r4⟩:=Kh (ty:=o.type) hT hi hz hzs hxv (.of hyv) hroom hnm
 have hw:=hsim.world r3 fun b hb=>by cases hb
 refine Zk (v:=v') (w':=w') ?_ (hn _ w' ?_)
 ·simp only [execOp,ho,resolve,hcl,hargs',hts',List.map_toArray,List.map_cons,List.map_nil,Sem.run_bind,Sem.run_pure,Result.andThen_ok,invoke,builtin,r1]
 ·rw [← hc,List.nil_append] at r2
  refine Z4 hw r2 (fun b hb=>?_) fun _=>.noMap (by rw [hc];exact hnm)
  rcases r4 with r4 | r4
  ·rw [r4] at hb;cases hb
  ·rw [r4] at hb
   simp only [Option.some.injEq] at hb
   subst hb
   exact ⟨.inr hsim.frm.size,fun i j=>Ka hsim i j⟩
theorem Zb1 {T':Odr} {P:Program} {o:Oper} {σ:Nat→AV} {T:TypeId} {parts:Array (Nat×Operand)} {f t:Nat} {fs:Array Field} {fd:Field} {i:TypeInfo} {z:Value} {zc:List AV} {e:TypeId} {xs:List (List AV)} {us:List (Nat×AV)} (ho:o.op = .build T parts) (hp:parts.toList = [(f,.tmp t)])
  (hT:P.underlying T=some (.struct fs)) (hi:P.info? T=some i) (hz:i.zero=some z) (hzc:W9 z.cells.toList=some zc) (hall:(fs.toList.all fun f=>(P.info? f.type).isSome)=true) (hfd:fs[f]? = some fd)
  (h1:P.cellsOf fd.type=1) (hoff:fd.offset < zc.length) (ht:σ t = .own true e xs) (hus:J9 T' σ t us) :
  KQ T' P o σ (.aggo (zc.set fd.offset (.own true e xs))) ((t,Wn P true e xs)::us) []:=by
 have hp':parts = #[(f,.tmp t)]:=by apply Array.toList_inj.1;rw [hp]
 intro c hc σ' tm w lim X hid hag hTx hsim next Q hn
 have ht':σ' t = .own true e xs:=by rw [hag t (by simp),ht]
 obtain ⟨X1,k1,k2,k3⟩:=hsim.freeAll (us:=us) ht' (.inr (hus.all hTx))
 rw [hc] at k1 k2
 have hcell:(tm.getD t undef).cells = #[tm.getD t undef]:=by
  rcases Z9.sliceV k2 with ⟨_,_,h | ⟨a,h⟩⟩ | ⟨b,arr,cap,_,_,_,h⟩ | ⟨_,b,_,_,_,_,h⟩ <;> rw [h]<;>rfl
 have hzr:=YQ (w:=w) (lim:=lim) hzc
 have hzl:fd.offset < z.cells.toList.length:=by rw [← hzr.1];exact hoff
 have hzip:=Zg1 fd.offset [tm.getD t undef] z.cells.toList.toArray (by have:=hzl;simp at this ⊢; omega)
 simp only [List.length_cons,List.length_nil,Nat.zero_add] at hzip
 have hrun:(execOp (Act.eval ⟨tm,[]⟩) o).run P w = .ok (.value (.agg (z.cells.toList.set fd.offset (tm.getD t undef)).toArray)) w:=by
  have hpl:(fun (i:Nat)=>(fs.map fun (f:Field)=>(f.offset,P.cellsOf f.type))[i]?)=fun (i:Nat)=>(fs[i]?).map fun (f:Field)=>(f.offset,P.cellsOf f.type):=by
   funext i;simp
  have hb:(Instr.build T (parts.map fun p=>(p.1,Act.eval ⟨tm,[]⟩ p.2))).run P w = .ok (.agg (z.cells.toList.set fd.offset (tm.getD t undef)).toArray) w:=by
   simp only [Instr.build,Sem.run_bind,zeroValue,typeInfo,run_program,hi,hz,Result.andThen_ok,Sem.run_pure,run_underlying hT]
   have hpq:=Zcw (P:=P) w fs hall
   rw [hpq]
   simp only [Result.andThen_ok]
   rw [hpl,hp']
   have hev:Act.eval ⟨tm,[]⟩ (.tmp t)=tm.getD t undef:=rfl
   have hsz:¬ (z.cells.size < fd.offset+1):=by
    have:z.cells.toList.length=z.cells.size:=by simp
    omega
   simp only [List.map_toArray,List.map_cons,List.map_nil,hev,Instr.fill,hfd,Option.map_some,h1,hcell]
   rw [if_neg (by simp;omega)]
   have h2:z.cells.toList.take fd.offset++[tm.getD t undef]++z.cells.toList.drop (fd.offset+1)=z.cells.toList.set fd.offset (tm.getD t undef):=by
    rw [List.set_eq_take_append_cons_drop,if_pos hzl];simp
   rw [Array.toArray_toList] at hzip
   rw [hzip,h2]
   rfl
  simp only [execOp,ho,Sem.run_bind,hb,Result.andThen_ok,Sem.run_pure]
 refine Zk hrun (hn _ w ?_)
 rw [← hc] at k1 k2
 have hlenz:(z.cells.toList.set fd.offset (tm.getD t undef)).length=(zc.set fd.offset (.own true e xs)).length:=by rw [List.length_set,List.length_set,hzr.1]
 cases hdst:o.dst with
 | none => rw [hc] at k1; exact ⟨lim, X1, by rw [← hc] at k1 ⊢; exact k1⟩
 | some d =>
  intro hd hm
  rw [← hc]
  refine ⟨lim,_,k1.putRow (fun k=>if k=fd.offset+1 then X t 0 else none) (ZT.refl w lim (fun _=>False)) (fun _ hs=>hs.elim) hd (tm':=tm.setIfInBounds d (.agg (z.cells.toList.set fd.offset (tm.getD t undef)).toArray)) (by simp) (fun i hi=>ZZ tm d i _ hi)
   (.inl (by rw [hc];exact (ZL hm).1)) (fun i q hi hr=>(k1.noRefs (by rw [hc];exact (ZL hm).none) i q hi hr).elim) ?_ (fun k b hk=>?_) (fun k k' b hk hk'=>?_)⟩
  ·rw [J5 tm d _ (by rw [hsim.size];exact hd)]
   refine ⟨_,rfl,hlenz,fun x hx=>?_,fun j x u hx hu=>?_⟩
   ·rcases List.mem_or_eq_of_mem_set hx with hx | hx
    ·exact .inl (hzr.2.1 x hx)
    ·exact .inr ⟨_,_,_,hx⟩
   ·rw [Zs]
    by_cases hj:j=fd.offset
    ·subst hj
     rw [List.getElem?_set_self hoff] at hx
     rw [List.getElem?_set_self hzl] at hu
     simp only [Option.some.injEq] at hx hu
     subst hx
     subst hu
     rw [if_pos rfl]
     exact k2
    ·rw [List.getElem?_set_ne (fun h=>hj h.symm)] at hx hu
     rw [if_neg (by omega)]
     have hrj:=hzr.2.2 j x u hx hu
     have hxc:=hzr.2.1 x (List.mem_of_getElem? hx)
     cases x<;>simp [AV.isCell] at hxc<;>exact hrj
  ·split at hk
   ·obtain ⟨m1,m2⟩:=k3 b hk
    exact ⟨(hsim.ours t 0 b hk).1,m1,fun i j _=>m2 i j⟩
   ·cases hk
  ·split at hk<;>split at hk'
   ·omega
   ·cases hk'
   ·cases hk
   ·cases hk
theorem Za9 {P:Program} {o:Oper} {σ:Nat→AV} {T:TypeId} {a:Operand} {t d off:Nat} {cs vc:List AV} (ho:o.op = .store T a (.tmp t)) (ha:Zm P σ a = .ptr d off) (hd:σ d = .box cs) (ht:σ t = .aggo vc)
  (hn:vc.length=P.cellsOf T) (h0:P.cellsOf T≠0) (hfit:off+P.cellsOf T≤cs.length) (hnr:Zbc ((cs.drop off).take (P.cellsOf T))) :
  JK P o σ .dead [(t,.dead),(d,.box (cs.take off++vc++cs.drop (off+P.cellsOf T)))] [d]:=by
 intro c hc σ' tm w lim X hid hag hsim next Q hnx
 have hga:Zm P σ' a=Zm P σ a:=ZF fun t ht=>hid t (by simp [Zu (o:=o) (x:=a) (by rw [ho];simp [Op.operands]) ht])
 have hd':σ' d = .box cs:=by rw [hag d (by simp),hd]
 have ht':σ' t = .aggo vc:=by rw [hag t (by simp),ht]
 have hdt:d≠t:=fun h=>by rw [h,ht'] at hd';cases hd'
 have hva:=YF hc hsim ha hga
 rw [← hc] at hva
 obtain ⟨b,h1,h2,h3⟩:=K5 hsim hd' hva
 obtain ⟨i,hi⟩:=ZC h0
 have hrt:=hsim.rel t
 rw [ht'] at hrt
 obtain ⟨us,u1,u2,u3,u4⟩:=hrt
 have htn:t < c.nt:=W4 hsim (by rw [ht'];exact fun h=>by cases h) (by rw [ht'];rfl)
 have k1:Sim c (upd σ' t .dead) tm w lim (W2 X t YC):=hsim.weaken (k:=0) htn (fun cs h=>by rw [ht'] at h;cases h) (hsim.noRefs fun k=>by rw [ht'];rfl) rfl (fun i q hq=>by rcases hq with hq | ⟨_,hq⟩ <;> cases hq) trivial
 have hd1:upd σ' t .dead d = .box cs:=by rw [Zi _ _ hdt,hd']
 obtain ⟨b0,arr,ty,g1,g2,g3,g4,g5,g6,g7⟩:=h3
 have hb0:b0=b:=by rw [g1] at h1;exact Option.some.inj h1
 subst hb0
 have hset:=k1.setCells (off:=off) (vc:=vc) (us:=us) (b:=b0) (fun j=>if j < vc.length then X t (j+1) else none) hd1 (by rw [Zw X YC hdt];exact g1) (by rw [hn];exact hfit) u2.symm (fun z hz=>(u3 z hz).imp id .inl) (fun j x u hx hu=>?_) g3
  (fun k q1 q2 i hi hr=>Zbw k1 hd1 (by rw [← hn] at hnr;exact hnr) q1 q2 hr) (fun j b' hb'=>?_)
 ·refine YT (w':=w.setRow b0 (arr.toList.take off++us++arr.toList.drop (off+us.length)).toArray) ?_ (hnx undef _ ?_)
  ·have hev:Act.eval ⟨tm,[]⟩ (.tmp t) = .agg us.toArray:=u1
   have hst:=KB (P:=P) (T:=T) (w:=w) (b:=b0) (off:=off) (v:=.agg us.toArray) (us:=us) hi rfl (by rw [u2,hn]) g3 (by rw [u2,hn,g4];exact hfit) (fun u hu=>by
    obtain ⟨j,hj⟩:=List.mem_iff_getElem?.1 hu
    have hlt:j < vc.length:=by rw [← u2];exact (List.getElem?_eq_some_iff.1 hj).1
    have hr:=u4 j _ u (List.getElem?_eq_getElem hlt) hj
    rcases u3 _ (List.getElem_mem hlt) with hx | ⟨x,e,xs,hx⟩
    ·generalize vc[j]=y at hr hx
     cases y<;>simp [AV.isCell] at hx<;>exact Rep.oneCell hr rfl
    ·rw [hx] at hr
     rcases Z9.sliceV (show Z9 c.P w lim x e xs u _ from hr) with ⟨_,_,h | ⟨a,h⟩⟩ | ⟨b,arr,cap,_,_,_,h⟩ | ⟨_,b,_,_,_,_,h⟩ <;> rw [h]<;>rfl)
   simp only [execOp,ho,h2,hev,Sem.run_bind,hst,Result.andThen_ok,Sem.run_pure]
  ·rw [hn] at hset
   exact Zy hset rfl (k:=0) trivial
 ·have hlt:j < vc.length:=(List.getElem?_eq_some_iff.1 hx).1
  show JX c.P w lim (if j < vc.length then X t (j+1) else none) x u
  rw [if_pos hlt]
  exact u4 j x u hx hu
 ·have hb2:(if j < vc.length then X t (j+1) else none)=some b':=hb'
  split at hb2
  ·rename_i hlt
   obtain ⟨o1,o2⟩:=hsim.ours t (j+1) b' hb2
   refine ⟨hlt,o2,o1,fun i k hik=>?_,fun i' hi'=>?_⟩
   ·by_cases hit:i=t
    ·subst hit;rw [Zs] at hik;cases hik
    ·rw [Zw X YC hit] at hik
     exact hit (hsim.dist i k t (j+1) b' hik hb2).1
   ·have hi2:(if i' < vc.length then X t (i'+1) else none)=some b':=hi'
    split at hi2
    ·have:=(hsim.dist t (j+1) t (i'+1) b' hb2 hi2).2
     omega
    ·cases hi2
  ·cases hb2
def ZM (l:List AV):Nat→AV:=fun i=>(l[i]?).getD .dead
def Zj1 (X:Nat→Nat→Option Nat):Prop:=∀ d k d' k' b,X d k=some b→X d' k'=some b→d=d'∧k=k'
def Callable (P : Program) (f : FuncId) : Prop := ∃ fn, P.funcs[f]? = some fn ∧ (fn.name == "runtime.NumGoroutine") = false ∧ fn.body.isNone = false
def WX (n:Nat) (cargs:List Value) (v:Value) (i:Nat):Value:=if i=n then v else cargs.getD i undef
def JI (P:Program) (f:FuncId) (args:List AV) (res:AV) (outs:List AV):Prop:=
 Callable P f∧∀ (w:World) (lim:Nat→Nat) (X:Nat→Nat→Option Nat) (cargs:List Value),cargs.length+args.countP AV.isG≤args.length→
  (∀ i,ZK P w lim X (ZM args) i (ZM args i) (cargs.getD i undef))→Zj1 X→(∀ i k b,X i k=some b→b < w.heap.size)→
  Calls P f cargs.toArray w fun e w'=>∃ v lim' X',e = .returned v∧ZT w lim w' lim' (fun b=>∃ i k,X i k=some b)∧outs.length=args.length∧
   (∀ i,ZK P w' lim' X' (ZM (outs++[res])) i (ZM (outs++[res]) i) (WX args.length cargs v i))∧Zj1 X'∧
   (∀ i k b,X' i k=some b→b < w'.heap.size∧((∃ i k,X i k=some b)∨w.heap.size≤b))∧∀ i,(ZM (outs++[res]) i).isG=true→(ZM args i).isG=true∧X' i 0=X i 0
def Wt (x:AV):Bool:=match x with | .val _=>true | _=>false
def ZeI (x:AV):Bool:=
 match x with
 | .val _ => true
 | .dead => true
 | .agg cs => cs.all Wt
 | .box cs => cs.all Wt
 | .gbox cs => cs.all Wt
 | .tuple vs => vs.all fun v => match v with | .agg cs => cs.all Wt | v => Wt v
 | _ => false
def K8 (lim:Nat→Nat) (b0 N:Nat):Nat→Nat:=fun b=>if b=b0 then N else lim b
theorem Zaz {w w':World} {lim lim':Nat→Nat} {x:AV} {v:Value} (hx:Wt x=true) (h:Rep w lim x v):Rep w' lim' x v:=by
 cases x<;>simp [Wt] at hx
 cases h with
 | val h => exact .val h
theorem Zg6 {w w':World} {lim lim':Nat→Nat} {cs:List AV} {v:Value} (hx:cs.all Wt=true) (h:Rep w lim (.agg cs) v):Rep w' lim' (.agg cs) v:=by
 rw [List.all_eq_true] at hx
 cases h with
 | agg hl hc hr => exact .agg hl hc fun i c v hi hv => Zaz (hx c (List.mem_of_getElem? hi)) (hr i c v hi hv)
theorem Zjs {P:Program} {w w':World} {lim lim':Nat→Nat} {ob:Option Nat} {x:AV} {v:Value} (hx:Wt x=true) (h:JX P w lim ob x v):JX P w' lim' ob x v:=by
 cases x<;>simp [Wt] at hx
 exact Zaz rfl (show Rep w lim _ v from h)
theorem ZcQ {P:Program} {w:World} {lim lim':Nat→Nat} {X:Nat→Option Nat} {cs:List AV} {v:Value} (hx:cs.all Wt=true) (hl:∀ b,X 0=some b→lim' b=lim b) (h:ZG P w lim X cs v):ZG P w lim' X cs v:=by
 rw [List.all_eq_true] at hx
 obtain ⟨b,arr,t,h1,h2,h3,h4,h5,h6,h7⟩:=h
 exact ⟨b,arr,t,h1,h2,h3,h4,(hl b h1).trans h5,h6,fun i c u hc hu=>Zjs (hx c (List.mem_of_getElem? hc)) (h7 i c u hc hu)⟩
theorem ZiA {P:Program} {w:World} {lim lim':Nat→Nat} {X:Nat→Nat→Option Nat} {σ:Nat→AV} {d:Nat} {x:AV} {v:Value} (hx:ZeI x=true) (hl:∀ b,X d 0=some b→lim' b=lim b) (h:ZK P w lim X σ d x v):ZK P w lim' X σ d x v:=by
 cases x with
 | val u => exact Zaz rfl (show Rep w lim _ v from h)
 | dead => trivial
 | agg cs => exact Zg6 hx (show Rep w lim _ v from h)
 | box cs => exact ZcQ hx hl h
 | gbox cs =>
  obtain ⟨v',h⟩:=h
  exact ⟨v',ZcQ hx hl h⟩
 | tuple vs =>
  simp only [ZeI,List.all_eq_true] at hx
  obtain ⟨us,h1,h2,h3⟩:=h
  refine ⟨us,h1,h2,fun i c u hc hu=>?_⟩
  have hcx:=hx c (List.mem_of_getElem? hc)
  have h4:=h3 i c u hc hu
  cases c with
  | agg cs => exact Zg6 hcx (show Rep w lim _ u from h4)
  | val y => exact Zaz rfl (show Rep w lim _ u from h4)
  | _ => cases hcx
 | _ => cases hx
theorem ZaT {P:Program} {w:World} {lim:Nat→Nat} {e:TypeId} {xs:List (List AV)} {v:Value} {b0:Nat} (h:Z9 P w lim true e xs v (some b0)) (hnm:Zo P e=false) (hext:Ext w lim w (K8 lim b0 (xs.length*P.cellsOf e))) :
  Z9 P w (K8 lim b0 (xs.length*P.cellsOf e)) false e xs v (some b0):=by
 rcases h.noMap hnm with ⟨ws,g1,g2,g3,g4,g5,g6⟩ | ⟨_,h,_⟩
 ·refine .inl ⟨ws,g1,g2,fun b hb=>?_,g4,g5,fun j z u hz hu=>(g6 j z u hz hu).mono hext⟩
  have hbb:b0=b:=Option.some.inj hb
  subst hbb
  rw [if_neg (by simp),g1.1]
  exact if_pos rfl
 ·cases h
theorem JI.borrow {P:Program} {f:FuncId} {args:List AV} {res:AV} {outs:List AV} (h:JI P f args res outs) (hf:∀ i,ZeI (ZM (outs++[res]) i)=true) {w:World} {lim:Nat→Nat} {X:Nat→Nat→Option Nat} {cargs:List Value} {b0 N:Nat}
  (hb0:b0 < w.heap.size) (hl0:lim b0=0) (hX0:∀ i k,X i k≠some b0) (hlen:cargs.length+args.countP AV.isG≤args.length)
  (hrel:∀ i,ZK P w (K8 lim b0 N) X (ZM args) i (ZM args i) (cargs.getD i undef)) (hdist:Zj1 X) (hsize:∀ i k b,X i k=some b→b < w.heap.size) :
  Calls P f cargs.toArray w fun e w'=>∃ v lim' X',e = .returned v∧ZT w lim w' lim' (fun b=>∃ i k,X i k=some b)∧outs.length=args.length∧
   (∀ i,ZK P w' lim' X' (ZM (outs++[res])) i (ZM (outs++[res]) i) (WX args.length cargs v i))∧Zj1 X'∧
   (∀ i k b,X' i k=some b→b < w'.heap.size∧((∃ i k,X i k=some b)∨w.heap.size≤b))∧∀ i,(ZM (outs++[res]) i).isG=true→(ZM args i).isG=true∧X' i 0=X i 0:=by
 refine (h.2 w (K8 lim b0 N) X cargs hlen hrel hdist hsize).mono ?_
 rintro e w' ⟨v,lim',X',he,hst,hol,hr,hd,hin,hgh⟩
 have hne:∀ i k b,X' i k=some b→b≠b0:=by
  intro i k b hb hbb
  subst hbb
  rcases (hin i k b hb).2 with ⟨i',k',h1⟩ | h1
  ·exact hX0 i' k' h1
  ·omega
 have hk0:=hst.blk b0 hb0 fun ⟨i,k,hb⟩=>hX0 i k hb
 refine ⟨v,fun b=>if b=b0 then 0 else lim' b,X',he,⟨hst.os,hst.tape,hst.output,hst.size,hst.frz,fun b hb hn=>?_,fun b hb=>?_⟩,hol,fun i=>?_,hd,hin,hgh⟩
 ·obtain ⟨h1,h2⟩:=hst.blk b hb hn
  refine ⟨h1,?_⟩
  by_cases hbb:b=b0
  ·subst hbb
   show (if b=b then 0 else lim' b)=lim b
   rw [if_pos rfl,hl0]
  ·show (if b=b0 then 0 else lim' b)=lim b
   rw [if_neg hbb,h2]
   exact if_neg hbb
 ·by_cases hbb:b=b0
  ·subst hbb
   refine ⟨by rw [hl0];exact Nat.zero_le _,fun o u ho _=>by rw [hl0] at ho;omega⟩
  ·obtain ⟨h1,h2⟩:=hst.ext b hb
   have h3:K8 lim b0 N b=lim b:=if_neg hbb
   rw [h3] at h1 h2
   exact ⟨by show lim b≤if b=b0 then 0 else lim' b;rw [if_neg hbb];exact h1,h2⟩
 ·exact ZiA (hf i) (fun b hb=>if_neg (hne i 0 b hb)) (hr i)
def mkB (gh:Bool) (cs:List AV):AV:=match gh with | true=>.gbox cs | false=>.box cs
inductive AK where
 | imm (x : AV)
 | own (t : Nat) (x : Bool) (e : TypeId) (xs : List (List AV))
 | box (d : Nat) (fr to : Bool) (cs : List AV)
 | clo (g : FuncId) (ds gs : List Nat)
 | ref (t d q j : Nat)
 | pad
def AK.av:AK→AV
 | .imm x => x
 | .own _ x e xs => .own x e xs
 | .box _ _ to cs => mkB to cs
 | .clo g _ gs => .clo g gs
 | .ref _ _ q j => .mref j q
 | .pad => .dead
def AK.slot:AK→Option Nat
 | .imm _ => none
 | .own t _ _ _ => some t
 | .box d _ _ _ => some d
 | .clo _ _ _ => none
 | .ref t _ _ _ => some t
 | .pad => none
def Zll (x:AV):Prop:=(∃ v,x = .val v)∨(∃ cs,x = .agg cs)∨∃ f s xs,x = .slice f s xs
inductive Zar where
 | op (x : Operand)
 | cap (d : Nat)
 | ghost
 | pad
def Zvv (P:Program) (σ:Nat→AV) (x:Operand) (y:AV):Prop:=∃ d q e xs,(Zm P σ x = .mref d q∧∀ t e' ys,x = .tmp t→σ t≠.own true e' ys)∧Zr (σ d) q=some (e,xs)∧(P.cellsOf e≠0∧Zo P e=false)∧y = .slice false (P.cellsOf e) xs
def AK.ok (P:Program) (σ:Nat→AV):Zar→AK→Prop
 | .op x, .imm y => (Zm P σ x = y ∧ Zll y) ∨ Zvv P σ x y
 | .op x, .own t b e xs => x = .tmp t ∧ σ t = .own b e xs
 | .op x, .box d fr to cs => Zm P σ x = .ptr d 0 ∧ σ d = .box cs ∧ fr = false ∧ to = false
 | .op x, .clo g ds _ => Zm P σ x = .clo g ds
 | .op x, .ref t d q _ => x = .tmp t ∧ σ t = .mref d q
 | .cap d', .box d fr to cs => d' = d ∧ σ d = mkB fr cs ∧ to = false
 | .ghost, .box d fr to cs => σ d = mkB fr cs ∧ to = true
 | .pad, .pad => True
 | _, _ => False
def reB (fr to:Bool) (o:AV):AV:=
 match to,o with
 | true, .gbox cs => mkB fr cs
 | false, .box cs => mkB fr cs
 | _, _ => .dead
theorem ZpK (fr to:Bool) (cs:List AV):reB fr to (mkB to cs)=mkB fr cs:=by cases to<;>rfl
theorem ZeZ (a b:Bool) (cs:List AV) (q:Nat):Zr (mkB a cs) q=Zr (mkB b cs) q:=by cases a<;>cases b<;>cases q<;>rfl
theorem Zd3 (gh:Bool) (cs:List AV):(mkB gh cs).isG=gh:=by cases gh<;>rfl
theorem ZnI (gh:Bool) (cs:List AV):(mkB gh cs).isB=true:=by cases gh<;>rfl
def ZbX:List AK→List AV→List (Nat×AV)
 | .own t _ _ _ :: aZ, _ :: os => (t, .gone) :: ZbX aZ os
 | .box d fr to _ :: aZ, o :: os => (d, reB fr to o) :: ZbX aZ os
 | .imm _ :: aZ, _ :: os => ZbX aZ os
 | .clo _ _ _ :: aZ, _ :: os => ZbX aZ os
 | .ref t _ _ _ :: aZ, _ :: os => (t, .dead) :: ZbX aZ os
 | .pad :: aZ, _ :: os => ZbX aZ os
 | _, _ => []
theorem ZX:∀ (aZ:List AK) (os:List AV) (σ:Nat→AV) (d:Nat),(∀ a∈aZ,a.slot≠some d)→JF σ (ZbX aZ os) d=σ d
 | [], os, σ, d, _ => by cases os <;> rfl
 | a :: aZ, [], σ, d, _ => by cases a <;> rfl
 | .imm _ :: aZ, o :: os, σ, d, h => ZX aZ os σ d fun a ha => h a (by simp [ha])
 | .clo _ _ _ :: aZ, o :: os, σ, d, h => ZX aZ os σ d fun a ha => h a (by simp [ha])
 | .pad :: aZ, o :: os, σ, d, h => ZX aZ os σ d fun a ha => h a (by simp [ha])
 | .ref t x e xs :: aZ, o :: os, σ, d, h => by
  show JF (upd σ t .dead) (ZbX aZ os) d=σ d
  rw [ZX aZ os _ d fun a ha=>h a (by simp [ha])]
  exact Zi σ _ fun hd=>h (.ref t x e xs) (by simp) (by rw [hd];rfl)
 | .own t x e xs :: aZ, o :: os, σ, d, h => by
  show JF (upd σ t .gone) (ZbX aZ os) d=σ d
  rw [ZX aZ os _ d fun a ha=>h a (by simp [ha])]
  exact Zi σ _ fun hd=>h (.own t x e xs) (by simp) (by rw [hd];rfl)
 | .box t fr to cs :: aZ, o :: os, σ, d, h => by
  show JF (upd σ t (reB fr to o)) (ZbX aZ os) d=σ d
  rw [ZX aZ os _ d fun a ha=>h a (by simp [ha])]
  exact Zi σ _ fun hd=>h (.box t fr to cs) (by simp) (by rw [hd];rfl)
theorem Yo:∀ (aZ:List AK) (os:List AV) (σ:Nat→AV) (i:Nat) (a:AK) (o:AV) (d:Nat),aZ.length=os.length→(aZ.filterMap AK.slot).Nodup→aZ[i]? = some a→os[i]? = some o→a.slot=some d→
  JF σ (ZbX aZ os) d=match a with | .own _ _ _ _=>.gone | .box _ fr to _=>reB fr to o | .ref _ _ _ _=>.dead | _=>o
 | [], os, σ, i, a, o, d, _, _, ha, _, _ => by simp at ha
 | b :: aZ, [], σ, i, a, o, d, hl, _, _, _, _ => by simp at hl
 | b :: aZ, p :: os, σ, 0, a, o, d, hl, hnd, ha, ho, hd => by
  simp only [List.getElem?_cons_zero,Option.some.injEq] at ha ho
  subst ha
  subst ho
  have hno:∀ a∈aZ,a.slot≠some d:=by
   intro a ha hs
   rw [List.filterMap_cons,hd] at hnd
   exact (List.nodup_cons.1 hnd).1 (List.mem_filterMap.2 ⟨a,ha,hs⟩)
  cases b with
  | imm x => simp [AK.slot] at hd
  | clo g ds gs => simp [AK.slot] at hd
  | pad => simp [AK.slot] at hd
  | own t x e xs =>
   simp only [AK.slot,Option.some.injEq] at hd
   subst hd
   show JF (upd σ t .gone) (ZbX aZ os) t = .gone
   rw [ZX aZ os _ t hno,ZY]
  | ref t x e xs =>
   simp only [AK.slot,Option.some.injEq] at hd
   subst hd
   show JF (upd σ t .dead) (ZbX aZ os) t = .dead
   rw [ZX aZ os _ t hno,ZY]
  | box t fr to cs =>
   simp only [AK.slot,Option.some.injEq] at hd
   subst hd
   show JF (upd σ t (reB fr to p)) (ZbX aZ os) t=reB fr to p
   rw [ZX aZ os _ t hno,ZY]
 | b :: aZ, p :: os, σ, i + 1, a, o, d, hl, hnd, ha, ho, hd => by
  have hl':aZ.length=os.length:=by simpa using hl
  have ha':aZ[i]? = some a:=by simpa using ha
  have ho':os[i]? = some o:=by simpa using ho
  cases b with
  | imm x => exact Yo aZ os σ i a o d hl' (by simpa [List.filterMap_cons, AK.slot] using hnd) ha' ho' hd
  | clo g ds gs => exact Yo aZ os σ i a o d hl' (by simpa [List.filterMap_cons, AK.slot] using hnd) ha' ho' hd
  | pad => exact Yo aZ os σ i a o d hl' (by simpa [List.filterMap_cons, AK.slot] using hnd) ha' ho' hd
  | ref t x e xs =>
   rw [List.filterMap_cons] at hnd
   exact Yo aZ os (upd σ t .dead) i a o d hl' (List.nodup_cons.1 hnd).2 ha' ho' hd
  | own t x e xs =>
   rw [List.filterMap_cons] at hnd
   exact Yo aZ os (upd σ t .gone) i a o d hl' (List.nodup_cons.1 hnd).2 ha' ho' hd
  | box t fr to cs =>
   rw [List.filterMap_cons] at hnd
   exact Yo aZ os (upd σ t (reB fr to p)) i a o d hl' (List.nodup_cons.1 hnd).2 ha' ho' hd
theorem Zhx:∀ (aZ:List AK),(aZ.filterMap AK.slot).Nodup→∀ (i j:Nat) (a b:AK) (d:Nat),aZ[i]? = some a→aZ[j]? = some b→a.slot=some d→b.slot=some d→i=j
 | [], _, i, j, a, b, d, ha, _, _, _ => by simp at ha
 | x :: aZ, hnd, i, j, a, b, d, ha, hb, hda, hdb => by
  have htail:(aZ.filterMap AK.slot).Nodup:=by
   rw [List.filterMap_cons] at hnd
   split at hnd
   ·exact hnd
   ·exact (List.nodup_cons.1 hnd).2
  have hhead:∀ d,x.slot=some d→∀ a∈aZ,a.slot≠some d:=by
   intro d hx a ha hs
   rw [List.filterMap_cons,hx] at hnd
   exact (List.nodup_cons.1 hnd).1 (List.mem_filterMap.2 ⟨a,ha,hs⟩)
  cases i with
  | zero =>
   cases j with
   | zero => rfl
   | succ j =>
    simp only [List.getElem?_cons_zero,Option.some.injEq] at ha
    subst ha
    exact (hhead d hda b (List.mem_of_getElem? (by simpa using hb)) hdb).elim
  | succ i =>
   cases j with
   | zero =>
    simp only [List.getElem?_cons_zero,Option.some.injEq] at hb
    subst hb
    exact (hhead d hdb a (List.mem_of_getElem? (by simpa using ha)) hda).elim
   | succ j => rw [Zhx aZ htail i j a b d (by simpa using ha) (by simpa using hb) hda hdb]
def ZaB (X:Nat→Nat→Option Nat) (aZ:List AK):Nat→Nat→Option Nat:=fun i k=>
 match aZ[i]? with
 | some (.own t _ _ _) => if k = 0 then X t 0 else none
 | some (.box d _ _ _) => X d k
 | _ => none
def ZbU:List AK→Nat→Nat→Option (Nat×AK)
 | [], _, _ => none
 | a :: aZ, d, n => if a.slot = some d then some (n, a) else ZbU aZ d (n + 1)
theorem ZcR:∀ (aZ:List AK) (d n m:Nat) (a:AK),ZbU aZ d n=some (m,a)→∃ i,m=n+i∧aZ[i]? = some a∧a.slot=some d
 | [], _, _, _, _, h => by cases h
 | b :: aZ, d, n, m, a, h => by
  unfold ZbU at h
  split at h
  ·rename_i hs
   simp only [Option.some.injEq,Prod.mk.injEq] at h
   obtain ⟨rfl,rfl⟩:=h
   exact ⟨0,rfl,rfl,hs⟩
  ·obtain ⟨i,h1,h2,h3⟩:=ZcR aZ d (n+1) m a h
   exact ⟨i+1,by omega,by simpa using h2,h3⟩
theorem Zco:∀ (aZ:List AK) (d n:Nat),ZbU aZ d n=none→∀ a∈aZ,a.slot≠some d
 | [], _, _, _, a, ha => by simp at ha
 | b :: aZ, d, n, h, a, ha => by
  unfold ZbU at h
  split at h
  ·cases h
  ·rename_i hs
   rcases List.mem_cons.1 ha with rfl | ha
   ·exact hs
   ·exact Zco aZ d (n+1) h a ha
def XaA (X X':Nat→Nat→Option Nat) (aZ:List AK):Nat→Nat→Option Nat:=fun d k=>
 match ZbU aZ d 0 with
 | some (i, .box _ _ _ _) => X' i k
 | some _ => none
 | none => X d k
def ZeY (x:AV):Prop:=Zll x∨(∃ b e xs,x = .own b e xs)∨(∃ vs,x = .tuple vs)∨∃ cs,x = .box cs
theorem ZhU {P:Program} {w:World} {lim:Nat→Nat} {X X':Nat→Nat→Option Nat} {σ σ':Nat→AV} {d d':Nat} {x:AV} {v:Value} (hx:ZeY x) (h:ZK P w lim X σ d x v) (hX:X' d'=X d):ZK P w lim X' σ' d' x v:=by
 rcases hx with (⟨u,rfl⟩ | ⟨cs,rfl⟩ | ⟨f,s,xs,rfl⟩) | ⟨b,e,xs,rfl⟩ | ⟨vs,rfl⟩ | ⟨cs,rfl⟩
 ·exact h
 ·exact h
 ·exact h
 ·show Z9 P w lim b e xs v (X' d' 0);rw [hX];exact h
 ·obtain ⟨us,h1,h2,h3⟩:=h
  refine ⟨us,h1,h2,?_⟩
  rw [hX]
  exact h3
 ·show ZG P w lim (X' d') cs v;rw [hX];exact h
theorem ZiT {P:Program} {w:World} {lim:Nat→Nat} {X X':Nat→Nat→Option Nat} {σ σ':Nat→AV} {d d':Nat} {x:AV} {v:Value} (hx:Zll x) (h:ZK P w lim X σ d x v):ZK P w lim X' σ' d' x v:=by
 rcases hx with ⟨u,rfl⟩ | ⟨cs,rfl⟩ | ⟨f,s,xs,rfl⟩ <;> exact h
def AK.okV (P:Program) (bor:Nat→Nat→Prop) (w:World) (lim:Nat→Nat) (X:Nat→Nat→Option Nat) (σ:Nat→AV) (tm:Array Value) (v:Value):AK→Prop
 | .imm y => (ZK P w lim X σ 0 y v ∧ Zll y) ∨ ∃ d q e xs, Zr (σ d) q = some (e, xs) ∧ (P.cellsOf e ≠ 0 ∧ Zo P e = false) ∧ y = .slice false (P.cellsOf e) xs ∧ Zcs P w (X d q) e xs.length v ∧ bor d q
 | .own t x e xs => σ t = .own x e xs ∧ v = tm.getD t undef
 | .box d fr to cs => σ d = mkB fr cs ∧ ∃ b, X d 0 = some b ∧ ZG P w lim (X d) cs (.pointer (some ⟨b, 0, none⟩)) ∧ (fr = false → tm.getD d undef = .pointer (some ⟨b, 0, none⟩)) ∧ (to = false → v = .pointer (some ⟨b, 0, none⟩))
 | .clo g ds _ => ZK P w lim X σ 0 (.clo g ds) v
 | .ref t d q _ => σ t = .mref d q ∧ v = tm.getD t undef
 | .pad => True
def Zqh (aks:List AK):Prop:=∀ (i:Nat) (g:FuncId) (ds gs:List Nat),aks[i]? = some (.clo g ds gs)→gs.length=ds.length∧
 ∀ (k d j:Nat),ds[k]? = some d→gs[k]? = some j→∃ fr cs,aks[j]? = some (.box d fr true cs)
def ZpI (aks:List AK):Prop:=∀ (i t d q j:Nat),aks[i]? = some (.ref t d q j)→∃ fr cs,aks[j]? = some (.box d fr true cs)
theorem YP {P:Program} {w:World} {lim:Nat→Nat} {X:Nat→Option Nat} {cs:List AV} {v:Value} (h:ZG P w lim X cs v):∃ b,X 0=some b∧v = .pointer (some ⟨b,0,none⟩):=by
 obtain ⟨b,_,_,h1,h2,_⟩:=h
 exact ⟨b,h1,h2⟩
theorem ZhB {c:Ctx} {σ:Nat→AV} {tm:Array Value} {w:World} {lim:Nat→Nat} {X:Nat→Nat→Option Nat} (h:Sim c σ tm w lim X) {d:Nat} {fr:Bool} {cs:List AV} (hd:σ d=mkB fr cs) :
  ∃ b,X d 0=some b∧ZG c.P w lim (X d) cs (.pointer (some ⟨b,0,none⟩))∧(fr=false→tm.getD d undef = .pointer (some ⟨b,0,none⟩)):=by
 have hr:=h.rel d
 rw [hd] at hr
 cases fr with
 | false =>
  have hp:=(show ZG c.P w lim (X d) cs (tm.getD d undef) from hr)
  obtain ⟨b,h1,h2⟩:=YP hp
  exact ⟨b,h1,by rw [← h2];exact hp,fun _=>h2⟩
 | true =>
  obtain ⟨v,hp⟩:=hr
  obtain ⟨b,h1,h2⟩:=YP hp
  exact ⟨b,h1,by rw [← h2];exact hp,fun h=>by cases h⟩
theorem ZjA {T:Odr} (Bd Bq:Nat) (bp:List Nat) {P:Program} {o:Oper} {σ:Nat→AV} {cl:Call} {f:FuncId} {ds:List Nat} {tail:List Zar} {aks:List AK} {res:AV} {outs:List AV} (ho:o.op = .call cl)
  (hcl:(cl.callee = .value (.func f)∧ds = [])∨∃ t,cl.callee = .value (.tmp t)∧σ t = .clo f ds)
  (hlen:(cl.args.toList.map Zar.op++ds.map Zar.cap++tail).length=aks.length) (hargs:∀ (i:Nat) (x:Zar) (a:AK),(cl.args.toList.map Zar.op++ds.map Zar.cap++tail)[i]? = some x→aks[i]? = some a→a.ok P σ x)
  (htail:∀ x∈tail,x = .pad∨x = .ghost) (hcnt:cl.args.toList.length+ds.length+(aks.map AK.av).countP AV.isG≤aks.length) (hclo:Zqh aks) (hrf:ZpI aks) (hnd:(aks.filterMap AK.slot).Nodup)
  (hol:outs.length=aks.length) (hout:∀ (i d:Nat) (fr to:Bool) (cs:List AV) (y:AV),aks[i]? = some (.box d fr to cs)→outs[i]? = some y→∃ cs',y=mkB to cs') (hres:ZeY res) (hrm:∀ e xs,res = .own true e xs→Zo P e=false)
  (hex:∀ (i t:Nat) (e:TypeId) (xs:List (List AV)),aks[i]? = some (.own t true e xs)→J9 T σ t [])
  (hbx:∀ (i d:Nat) (fr to:Bool) (cs:List AV),aks[i]? = some (.box d fr to cs)→Zbc cs∨J9 T σ d []∨∀ σ',T.rel σ σ'→∀ i k,Jg (σ' i) d k→∃ a∈aks,a.slot=some i)
  (hB:∀ (i:Nat) (x:Operand),cl.args.toList[i]? = some x→(∃ z,aks[i]? = some (.imm z))→∀ d q,Zm P σ x = .mref d q→(∀ t e' ys,x = .tmp t→σ t≠.own true e' ys)→d=Bd∧q=Bq∧Bd∈bp∧(∀ a∈aks,a.slot≠some Bd)∧∀ i,ZeI (ZM (outs++[res]) i)=true)
  (hcall:JI P f (aks.map AK.av) res outs):KQ T P o σ res (ZbX aks outs) (aks.filterMap AK.slot++bp):=by
 intro c hc σ' tm w lim X hid hag hT hsim next Q hn
 subst hc
 obtain ⟨⟨fn,hfn,hname,hbody⟩,hc2⟩:=hcall
 have hslot:∀ a∈aks,∀ d,a.slot=some d→σ' d=σ d:=fun a ha d hd=>hag d (List.mem_append.2 (.inl (List.mem_append.2 (.inl (List.mem_filterMap.2 ⟨a,ha,hd⟩)))))
 have hops:∀ x∈cl.args.toList,x∈o.op.operands:=by
  intro x hx
  rw [ho]
  rcases hcl with ⟨h,_⟩ | ⟨t,h,_⟩ <;> simp only [Op.operands,Call.operands,h]<;>simp [Array.mem_toList_iff.1 hx]
 have hg:∀ x∈cl.args.toList,Zm c.P σ' x=Zm c.P σ x:=fun x hx=>ZF fun t ht=>hid t (Zu (hops x hx) ht)
 -- the blocks of what the function value has captured
 obtain ⟨bs,hbl,hbs,hcv⟩:∃ bs:List Nat,bs.length=ds.length∧(∀ (i d b:Nat),ds[i]? = some d→bs[i]? = some b→X d 0=some b)∧
   (resolve (Act.eval ⟨tm,[]⟩) cl o.type).run c.P w = .ok { target:=.fn (.func f) (bs.map fun b=>Value.pointer (some ⟨b,0,none⟩)).toArray,args:=cl.args.map (Act.eval ⟨tm,[]⟩) } w:=by
  rcases hcl with ⟨h,rfl⟩ | ⟨t,h,ht⟩
  ·refine ⟨[],rfl,by simp,?_⟩
   have hev:Act.eval ⟨tm,[]⟩ (.func f) = .func (.func f) #[] #[]:=rfl
   simp [resolve,h,hev,Deferred.ofValue]
  ·have hr:=hsim.rel t
   have htu:σ' t=σ t:=(hid t (Zu (x:=.tmp t) (by rw [ho];simp [Op.operands,Call.operands,h]) rfl)).eq fun cs e=>by rw [ht] at e;cases e
   rw [htu,ht] at hr
   obtain ⟨bs,h1,h2,h3⟩:=hr
   refine ⟨bs,h2,fun i d b hd hb=>(h3 i d b hd hb).1,?_⟩
   have hev:Act.eval ⟨tm,[]⟩ (.tmp t)=tm.getD t undef:=rfl
   simp [resolve,h,hev,h1,Deferred.ofValue]
 obtain ⟨cargs,hcargs⟩:∃ cargs:List Value,cargs=cl.args.toList.map (Act.eval ⟨tm,[]⟩)++bs.map (fun b=>Value.pointer (some ⟨b,0,none⟩)):=⟨_,rfl⟩
 have hcl2:cargs.length=cl.args.toList.length+ds.length:=by rw [hcargs];simp [hbl]
 have hok:∀ (i:Nat) (a:AK),aks[i]? = some a→a.okV c.P (fun d q=>d=Bd∧q=Bq∧(∀ a∈aks,a.slot≠some Bd)∧∀ i,ZeI (ZM (outs++[res]) i)=true) w lim X σ' tm (cargs.getD i undef):=by
  intro i a ha
  have hlt:i < (cl.args.toList.map Zar.op++ds.map Zar.cap++tail).length:=by rw [hlen];exact (List.getElem?_eq_some_iff.1 ha).1
  have hsrc:=List.getElem?_eq_getElem hlt
  have h:=hargs i _ a hsrc ha
  generalize hx:(cl.args.toList.map Zar.op++ds.map Zar.cap++tail)[i]=x at h hsrc
  have hsl:∀ d,a.slot=some d→σ' d=σ d:=fun d hd=>hslot a (List.mem_of_getElem? ha) d hd
  have hbox:∀ d fr to cs,a = .box d fr to cs→σ d=mkB fr cs→σ' d=mkB fr cs∧∃ b,X d 0=some b∧ZG c.P w lim (X d) cs (.pointer (some ⟨b,0,none⟩))∧(fr=false→tm.getD d undef = .pointer (some ⟨b,0,none⟩)):=by
   intro d fr to cs he h1
   have h3:σ' d=mkB fr cs:=(hsl d (by rw [he];rfl)).trans h1
   exact ⟨h3,ZhB hsim h3⟩
  cases x with
  | op y =>
   -- an operand
   have hi:i < cl.args.toList.length:=by
    rcases Nat.lt_or_ge i cl.args.toList.length with h0 | h0
    ·exact h0
    ·rw [List.append_assoc,List.getElem?_append_right (by simpa using h0)] at hsrc
     rcases List.mem_append.1 (List.mem_of_getElem? hsrc) with hm | hm
     ·obtain ⟨_,_,e⟩:=List.mem_map.1 hm;cases e
     ·rcases htail _ hm with e | e<;>cases e
   have hy:cl.args.toList[i]? = some y:=by
    rw [List.append_assoc,List.getElem?_append_left (by simpa using hi),List.getElem?_map] at hsrc
    rw [List.getElem?_eq_getElem hi] at hsrc ⊢
    simpa using hsrc
   have hv:cargs.getD i undef=Act.eval ⟨tm,[]⟩ y:=by
    rw [hcargs,List.getD_eq_getElem?_getD,List.getElem?_append_left (by simpa using hi),List.getElem?_map,hy];rfl
   have hgy:=hg y (List.mem_of_getElem? hy)
   rw [hv]
   cases a with
   | imm z =>
    have hrl:=(Y2 hsim y 0).2
    rw [hgy] at hrl
    rcases h with h | ⟨d,q,e,xs,m1,m2,m3,m4⟩
    ·rw [h.1] at hrl
     exact .inl ⟨hrl,h.2⟩
    ·rw [m1.1] at hrl
     obtain ⟨b1,b2,b3,b4,b5⟩:=hB i y hy ⟨z,ha⟩ d q m1.1 m1.2
     subst b1
     have hsd:σ' d=σ d:=hag d (List.mem_append.2 (.inl (List.mem_append.2 (.inr b3))))
     obtain ⟨e',xs',n1,n2⟩:=hrl
     rw [hsd,m2] at n1
     simp only [Option.some.injEq,Prod.mk.injEq] at n1
     obtain ⟨rfl,rfl⟩:=n1
     exact .inr ⟨d,q,e,xs,by rw [hsd];exact m2,m3,m4,n2,rfl,b2,b4,b5⟩
   | own t x e xs =>
    obtain ⟨rfl,ht⟩:=h
    exact ⟨(hsl t rfl).trans ht,rfl⟩
   | box d fr to cs =>
    obtain ⟨h1,h2,rfl,rfl⟩:=h
    obtain ⟨k1,b,k2,k3,k4⟩:=hbox d false false cs rfl h2
    refine ⟨k1,b,k2,k3,k4,fun _=>?_⟩
    have h4:=(Y2 hsim y 0).2
    rw [hgy,h1] at h4
    obtain ⟨b',_,m1,_,m3⟩:=h4
    rw [k2] at m1
    cases m1
    exact m3
   | clo g ds gs =>
    have:=(Y2 hsim y 0).2
    rw [hgy,show Zm c.P σ y = .clo g ds from h] at this
    exact this
   | ref t d q j =>
    obtain ⟨rfl,ht⟩:=h
    exact ⟨(hsl t rfl).trans ht,rfl⟩
   | pad => cases h
  | cap d' =>
   have hi:cl.args.toList.length≤i∧i-cl.args.toList.length < ds.length:=by
    rcases Nat.lt_or_ge i cl.args.toList.length with h0 | h0
    ·rw [List.append_assoc,List.getElem?_append_left (by simpa using h0)] at hsrc
     obtain ⟨_,_,e⟩:=List.mem_map.1 (List.mem_of_getElem? hsrc);cases e
    ·refine ⟨h0,?_⟩
     rcases Nat.lt_or_ge (i-cl.args.toList.length) ds.length with h1 | h1
     ·exact h1
     ·rw [List.getElem?_append_right (by rw [List.length_append,List.length_map,List.length_map];omega)] at hsrc
      rcases htail _ (List.mem_of_getElem? hsrc) with e | e<;>cases e
   have hd:ds[i-cl.args.toList.length]? = some d':=by
    rw [List.append_assoc,List.getElem?_append_right (by simpa using hi.1),List.getElem?_append_left (by simpa using hi.2),List.getElem?_map,List.length_map] at hsrc
    rw [List.getElem?_eq_getElem hi.2] at hsrc ⊢
    simpa using hsrc
   cases a with
   | box d fr to cs =>
    obtain ⟨rfl,h1,rfl⟩:=h
    obtain ⟨k1,b,k2,k3,k4⟩:=hbox d' fr false cs rfl h1
    refine ⟨k1,b,k2,k3,k4,fun _=>?_⟩
    have hb:=List.getElem?_eq_getElem (l:=bs) (i:=i-cl.args.toList.length) (by rw [hbl];exact hi.2)
    have hbb:=hbs _ _ _ hd hb
    rw [k2] at hbb
    rw [hcargs,List.getD_eq_getElem?_getD,List.getElem?_append_right (by simpa using hi.1),List.length_map,List.getElem?_map,hb,← Option.some.inj hbb]
    rfl
   | imm _ => cases h
   | own _ _ _ => cases h
   | clo _ _ _ => cases h
   | ref _ _ _ _ => cases h
   | pad => cases h
  | ghost =>
   cases a with
   | box d fr to cs =>
    obtain ⟨h1,rfl⟩:=h
    obtain ⟨k1,b,k2,k3,k4⟩:=hbox d fr true cs rfl h1
    exact ⟨k1,b,k2,k3,k4,fun h=>by cases h⟩
   | imm _ => cases h
   | own _ _ _ => cases h
   | clo _ _ _ => cases h
   | ref _ _ _ _ => cases h
   | pad => cases h
  | pad =>
   cases a with
   | pad => trivial
   | imm _ => cases h
   | own _ _ _ => cases h
   | clo _ _ _ => cases h
   | ref _ _ _ _ => cases h
   | box _ _ _ _ => cases h
 have hget:∀ (i:Nat) (a:AK),aks[i]? = some a→ZM (aks.map AK.av) i=a.av:=fun i a ha=>by simp [ZM,ha]
 -- the arguments as the callee sees them
 have hrel0:∀ i,(∀ z,aks[i]?≠some (.imm z))→ZK c.P w lim (ZaB X aks) (ZM (aks.map AK.av)) i (ZM (aks.map AK.av) i) (cargs.getD i undef):=by
  intro i hni
  cases ha:aks[i]? with
  | none =>
   have:ZM (aks.map AK.av) i = .dead:=by simp [ZM,ha]
   rw [this]
   trivial
  | some a =>
   rw [hget i a ha]
   have h:=hok i a ha
   cases a with
   | imm y => exact (hni y ha).elim
   | own t x e xs =>
    obtain ⟨ht,hv⟩:=h
    have:=hsim.rel t
    rw [ht] at this
    have hX:ZaB X aks i 0=X t 0:=by simp [ZaB,ha]
    show Z9 c.P w lim x e xs _ (ZaB X aks i 0)
    rw [hX,hv]
    exact this
   | box d fr to cs =>
    obtain ⟨h1,b,h2,h3,h4,h5⟩:=h
    have hX:ZaB X aks i=X d:=by funext k;simp [ZaB,ha]
    cases to with
    | false =>
     show ZG c.P w lim (ZaB X aks i) cs _
     rw [hX,h5 rfl]
     exact h3
    | true =>
     exact ⟨.pointer (some ⟨b,0,none⟩),by rw [hX];exact h3⟩
   | clo g es gs =>
    obtain ⟨l1,l2⟩:=hclo i g es gs ha
    obtain ⟨bs',m1,m2,m3⟩:=h
    refine ⟨bs',m1,by rw [m2,l1],fun k j b hj hb=>?_⟩
    have hlt:k < es.length:=by rw [← m2];exact (List.getElem?_eq_some_iff.1 hb).1
    obtain ⟨fr,cs,hbx⟩:=l2 k _ j (List.getElem?_eq_getElem hlt) hj
    have hX:ZaB X aks j 0=X es[k] 0:=by simp [ZaB,hbx]
    exact ⟨by rw [hX];exact (m3 k _ b (List.getElem?_eq_getElem hlt) hb).1,by rw [hget j _ hbx];exact ZnI true cs⟩
   | ref t d q j =>
    obtain ⟨ht,hv⟩:=h
    have hr:=hsim.rel t
    rw [ht] at hr
    obtain ⟨e,xs,n1,n2⟩:=hr
    obtain ⟨fr,cs,hb⟩:=hrf i t d q j ha
    have hX:ZaB X aks j q=X d q:=by simp [ZaB,hb]
    rw [(hok j _ hb).1,ZeZ fr true] at n1
    exact ⟨e,xs,by rw [hget j _ hb];exact n1,by rw [hX,hv];exact n2⟩
   | pad => trivial
 have hXof:∀ i k b,ZaB X aks i k=some b→∃ a d,aks[i]? = some a∧a.slot=some d∧X d k=some b:=by
  intro i k b h
  unfold ZaB at h
  split at h
  ·rename_i t x e xs ha
   split at h
   ·rename_i hk;subst hk;exact ⟨_,t,ha,rfl,h⟩
   ·cases h
  ·rename_i d fr to cs ha;exact ⟨_,d,ha,rfl,h⟩
  ·cases h
 have hdist:Zj1 (ZaB X aks):=by
  intro i k i' k' b h h'
  obtain ⟨a,d,h1,h2,h3⟩:=hXof i k b h
  obtain ⟨a',d',h1',h2',h3'⟩:=hXof i' k' b h'
  obtain ⟨e1,e2⟩:=hsim.dist d k d' k' b h3 h3'
  subst e1
  exact ⟨Zhx aks hnd i i' a a' d h1 h1' h2 h2',e2⟩
 have hsize:∀ i k b,ZaB X aks i k=some b→b < w.heap.size:=by
  intro i k b h
  obtain ⟨a,d,h1,h2,h3⟩:=hXof i k b h
  exact (hsim.ours d k b h3).1
 have hlc:cargs.length+(aks.map AK.av).countP AV.isG≤(aks.map AK.av).length:=by rw [hcl2,List.length_map];exact hcnt
 have hcalls:Calls c.P f cargs.toArray w fun e w'=>∃ v lim' X',e = .returned v∧ZT w lim w' lim' (fun b=>∃ i k,ZaB X aks i k=some b)∧outs.length=(aks.map AK.av).length∧
   (∀ i,ZK c.P w' lim' X' (ZM (outs++[res])) i (ZM (outs++[res]) i) (WX (aks.map AK.av).length cargs v i))∧Zj1 X'∧
   (∀ i k b,X' i k=some b→b < w'.heap.size∧((∃ i k,ZaB X aks i k=some b)∨w.heap.size≤b))∧∀ i,(ZM (outs++[res]) i).isG=true→(ZM (aks.map AK.av) i).isG=true∧X' i 0=ZaB X aks i 0:=by
  by_cases hbor:∃ e xs b0,Zr (σ' Bd) Bq=some (e,xs)∧X Bd Bq=some b0∧(∀ a∈aks,a.slot≠some Bd)∧(c.P.cellsOf e≠0∧Zo c.P e=false)∧∀ i,ZeI (ZM (outs++[res]) i)=true
  ·obtain ⟨e,xs,b0,p1,p2,p3,p4,p5⟩:=hbor
   obtain ⟨v0,ho⟩:=K6 hsim p1
   rw [p2] at ho
   obtain ⟨arr,cap,r1,r2,r3,r4,r5,r6,r7,r8,r9⟩:=Vb ho (.inl p4.2)
   have hX0:∀ i k,ZaB X aks i k≠some b0:=by
    intro i k hb
    obtain ⟨a,d,q1,q2,q3⟩:=hXof i k b0 hb
    obtain ⟨e1,_⟩:=hsim.dist d k Bd Bq b0 q3 p2
    subst e1
    exact p3 a (List.mem_of_getElem? q1) q2
   have hext:Ext w lim w (K8 lim b0 (xs.length*c.P.cellsOf e)):=by
    intro b _
    refine ⟨?_,fun _ _ _ hu=>hu⟩
    unfold K8
    split
    ·rename_i hbb;rw [hbb,r3];exact Nat.zero_le _
    ·exact Nat.le_refl _
   refine JI.borrow ⟨⟨fn,hfn,hname,hbody⟩,hc2⟩ p5 (N:=xs.length*c.P.cellsOf e) (hsim.ours Bd Bq b0 p2).1 r3 hX0 hlc (fun i=>?_) hdist hsize
   by_cases him:∃ z,aks[i]? = some (.imm z)
   ·obtain ⟨z,ha⟩:=him
    rw [hget i _ ha]
    rcases hok i _ ha with h | ⟨d,q,e',xs',n1,n2,n3,n4,n5,n6,_⟩
    ·obtain ⟨h1,h2⟩:=h
     rcases h2 with ⟨u,rfl⟩ | ⟨cs,rfl⟩ | ⟨f,s,xs,rfl⟩ <;> exact Rep.mono hext (show Rep w lim _ _ from h1)
    ·subst n5
     subst n6
     subst n3
     rw [p1] at n1
     simp only [Option.some.injEq,Prod.mk.injEq] at n1
     obtain ⟨rfl,rfl⟩:=n1
     rcases n4 with ⟨k1,_⟩ | ⟨b,arr',cap',k1,k2,k3,k4⟩ | ⟨k0,_⟩
     ·rw [p2] at k1;cases k1
     ·rw [p2] at k1
      have hbb:b0=b:=Option.some.inj k1
      subst hbb
      rw [r2] at k2
      simp only [Option.some.injEq,Obj.cells.injEq,and_true] at k2
      subst k2
      have hcap:cap'=cap:=Nat.eq_of_mul_eq_mul_right (by have:=p4.1;omega) (k3.symm.trans r6)
      subst hcap
      rw [k4,← r1]
      exact Z9.rep (ZaT ho p4.2 hext) false rfl
     ·rw [n2.2] at k0;cases k0
   ·exact (hrel0 i fun z hz=>him ⟨z,hz⟩).mono hext (fun k b hb=>⟨rfl,if_neg fun (hbb:b=b0)=>hX0 i k (by rw [← hbb];exact hb)⟩) fun d' k b _ _=>.of rfl
  ·refine hc2 w lim (ZaB X aks) cargs hlc (fun i=>?_) hdist hsize
   by_cases him:∃ z,aks[i]? = some (.imm z)
   ·obtain ⟨z,ha⟩:=him
    rw [hget i _ ha]
    rcases hok i _ ha with h | ⟨d,q,e',xs',n1,n2,n3,n4,n5,n6,n7,n8⟩
    ·exact ZiT h.2 h.1
    ·subst n5
     subst n6
     subst n3
     rcases n4 with ⟨_,k2,k3⟩ | ⟨b,arr,cap,k2,_⟩ | ⟨k0,_⟩
     ·have:xs' = []:=List.eq_nil_of_length_eq_zero k2
      subst this
      rcases k3 with k3 | ⟨a,k3⟩
      ·show Rep w lim _ _
       rw [k3];exact .sliceN
      ·show Rep w lim _ _
       rw [k3];exact .sliceE fun h=>by cases h
     ·exact (hbor ⟨e',xs',b,n1,k2,n7,n2,n8⟩).elim
     ·rw [n2.2] at k0;cases k0
   ·exact hrel0 i fun z hz=>him ⟨z,hz⟩
 have hrun:(execOp (Act.eval ⟨tm,[]⟩) o).run c.P w = .ok (.enter f cargs.toArray) w:=by
  have harr:cl.args.map (Act.eval ⟨tm,[]⟩)++(bs.map fun b=>Value.pointer (some ⟨b,0,none⟩)).toArray=cargs.toArray:=by
   apply Array.toList_inj.1;rw [hcargs];simp
  simp only [execOp,ho,Sem.run_bind,hcv,Result.andThen_ok,invoke,callFunc,run_program,hfn,hname,hbody]
  rw [harr]
  rfl
 unfold Oper.wp
 rw [hrun,Oper.upon_enter]
 refine hcalls.mono ?_
 rintro e w' ⟨v,lim',X',rfl,hstep,hl',hrel',hdist',hours',hgh'⟩
 refine hn v w' ?_
 -- what the slots are behind the call
 have hpass:∀ d,(∃ i a,ZbU aks d 0=some (i,a)∧aks[i]? = some a∧a.slot=some d)∨(ZbU aks d 0=none∧∀ a∈aks,a.slot≠some d):=by
  intro d
  cases hf:ZbU aks d 0 with
  | none => exact .inr ⟨rfl, Zco aks d 0 hf⟩
  | some p =>
   obtain ⟨m,a⟩:=p
   obtain ⟨i,h1,h2,h3⟩:=ZcR aks d 0 m a hf
   rw [Nat.zero_add] at h1
   subst h1
   exact .inl ⟨m,a,rfl,h2,h3⟩
 have houtAt:∀ i a,aks[i]? = some a→∃ y,outs[i]? = some y:=fun i a ha=>⟨_,List.getElem?_eq_getElem (by rw [hol];exact (List.getElem?_eq_some_iff.1 ha).1)⟩
 have hret:∀ i,i < aks.length→WX (aks.map AK.av).length cargs v i=cargs.getD i undef:=by
  intro i hi
  unfold WX
  rw [if_neg (by rw [List.length_map];omega)]
 have hboxOut:∀ i d fr to cs,aks[i]? = some (.box d fr to cs)→∃ cs' b,outs[i]? = some (mkB to cs')∧ZG c.P w' lim' (X' i) cs' (.pointer (some ⟨b,0,none⟩))∧(fr=false→tm.getD d undef = .pointer (some ⟨b,0,none⟩))∧X' i 0=some b∧X d 0=some b∧
   JF σ' (ZbX aks outs) d=mkB fr cs':=by
  intro i d fr to cs ha
  obtain ⟨y,hy⟩:=houtAt i _ ha
  obtain ⟨cs',rfl⟩:=hout i d fr to cs y ha hy
  have h1:=hrel' i
  have hlt:i < outs.length:=(List.getElem?_eq_some_iff.1 hy).1
  have ho1:ZM (outs++[res]) i=mkB to cs':=by
   simp only [ZM]
   rw [List.getElem?_append_left hlt,hy]
   rfl
  obtain ⟨k1,b,k2,k3,k4,k5⟩:=hok i _ ha
  rw [ho1,hret i (by rw [← hol];exact hlt)] at h1
  have hup:=Yo aks outs σ' i (.box d fr to cs) (mkB to cs') d hol.symm hnd ha hy rfl
  simp only [ZpK] at hup
  have hpl:ZG c.P w' lim' (X' i) cs' (.pointer (some ⟨b,0,none⟩))∧X' i 0=some b:=by
   cases to with
   | false =>
    rw [k5 rfl] at h1
    have hp:ZG c.P w' lim' (X' i) cs' (.pointer (some ⟨b,0,none⟩)):=h1
    obtain ⟨b',m1,m2⟩:=YP hp
    simp only [Value.pointer.injEq,Option.some.injEq,Addr.mk.injEq,and_true] at m2
    exact ⟨hp,by rw [m1,m2]⟩
   | true =>
    obtain ⟨v',hp⟩:=(show ∃ v',ZG c.P w' lim' (X' i) cs' v' from h1)
    have hgx:=(hgh' i (by rw [ho1];rfl)).2
    have hX:ZaB X aks i 0=X d 0:=by simp [ZaB,ha]
    obtain ⟨b',m1,m2⟩:=YP hp
    rw [hgx,hX,k2] at m1
    cases m1
    exact ⟨by rw [← m2];exact hp,by rw [hgx,hX,k2]⟩
  exact ⟨cs',b,hy,hpl.1,k4,hpl.2,k2,hup⟩
 have hafter:Sim c (JF σ' (ZbX aks outs)) tm w' lim' (XaA X X' aks):=by
  have hSours:∀ b,(∃ i k,ZaB X aks i k=some b)→c.A b∨c.w0.heap.size≤b:=by
   rintro b ⟨i,k,h⟩
   obtain ⟨a,d,_,_,h3⟩:=hXof i k b h
   exact (hsim.ours d k b h3).2
  have hXa:∀ d k b,XaA X X' aks d k=some b→(∃ i a fr to cs,ZbU aks d 0=some (i,a)∧aks[i]? = some (.box d fr to cs)∧X' i k=some b)∨(ZbU aks d 0=none∧(∀ a∈aks,a.slot≠some d)∧X d k=some b):=by
   intro d k b h
   unfold XaA at h
   rcases hpass d with ⟨i,a,h1,h2,h3⟩ | ⟨h1,h2⟩
   ·rw [h1] at h
    cases a with
    | imm y => simp at h
    | own t x e xs => simp at h
    | clo _ _ _ => simp at h
    | ref _ _ _ _ => simp at h
    | pad => simp at h
    | box d' fr to cs =>
     simp only [AK.slot,Option.some.injEq] at h3
     subst h3
     exact .inl ⟨i,_,fr,to,cs,h1,h2,h⟩
   ·rw [h1] at h
    exact .inr ⟨h1,h2,h⟩
  have hXold:∀ d k b,(∀ a∈aks,a.slot≠some d)→X d k=some b→¬ ∃ i k,ZaB X aks i k=some b:=by
   rintro d k b hno hb ⟨i,k',h⟩
   obtain ⟨a,d',h1,h2,h3⟩:=hXof i k' b h
   obtain ⟨e1,_⟩:=hsim.dist d k d' k' b hb h3
   subst e1
   exact hno a (List.mem_of_getElem? h1) h2
  -- a box of the caller's stays one
  have hkeep:∀ d' gh cs,σ' d'=mkB gh cs→(∃ cs',JF σ' (ZbX aks outs) d'=mkB gh cs'∧((∀ a∈aks,a.slot≠some d')→cs'=cs))∧XaA X X' aks d' 0=X d' 0:=by
   intro d' gh cs hd'
   rcases hpass d' with ⟨i,a,k1,k2,k3⟩ | ⟨k1,k2⟩
   ·cases a with
    | imm y => simp [AK.slot] at k3
    | clo _ _ _ => simp [AK.slot] at k3
    | pad => simp [AK.slot] at k3
    | own t x e xs =>
     simp only [AK.slot,Option.some.injEq] at k3
     subst k3
     have:=hok i _ k2
     rw [this.1] at hd'
     cases gh<;>cases hd'
    | ref t x e xs =>
     simp only [AK.slot,Option.some.injEq] at k3
     subst k3
     have:=hok i _ k2
     rw [this.1] at hd'
     cases gh<;>cases hd'
    | box d'' fr to cs'' =>
     simp only [AK.slot,Option.some.injEq] at k3
     subst k3
     obtain ⟨cs',b,g1,g2,g3,g4,g5,g6⟩:=hboxOut i d'' fr to cs'' k2
     have hkk:=(hok i _ k2).1
     rw [hd'] at hkk
     have hfg:gh=fr:=by have:=congrArg AV.isG hkk;rwa [Zd3,Zd3] at this
     subst hfg
     refine ⟨⟨cs',g6,fun hno=>(hno _ (List.mem_of_getElem? k2) rfl).elim⟩,?_⟩
     simp only [XaA,k1]
     rw [g4,g5]
   ·exact ⟨⟨cs,by rw [ZX aks outs σ' d' k2];exact hd',fun _=>rfl⟩,by simp only [XaA,k1]⟩
  have hkb:∀ d' cs,σ' d' = .box cs→(∃ cs',JF σ' (ZbX aks outs) d' = .box cs')∧XaA X X' aks d' 0=X d' 0:=by
   intro d' cs hd'
   obtain ⟨⟨cs',h1,_⟩,h3⟩:=hkeep d' false cs hd'
   exact ⟨⟨cs',h1⟩,h3⟩
  -- what is referred to is not handed over
  have href:∀ i d' k,Jg (σ' i) d' k→(∀ a∈aks,a.slot≠some i)→∀ a∈aks,a.slot≠some d':=by
   intro i d' k hr hni a ha hs
   obtain ⟨p,hp⟩:=K1 hsim hr
   obtain ⟨j,hj⟩:=List.mem_iff_getElem?.1 ha
   have hk:=hok j a hj
   cases a with
   | imm y => simp [AK.slot] at hs
   | clo _ _ _ => simp [AK.slot] at hs
   | pad => simp [AK.slot] at hs
   | ref t x e xs =>
    simp only [AK.slot,Option.some.injEq] at hs
    subst hs
    rw [hk.1] at hp
    simp [Zr] at hp
   | own t x e xs =>
    simp only [AK.slot,Option.some.injEq] at hs
    subst hs
    cases x with
    | false => rw [hk.1] at hp; simp [Zr] at hp
    | true =>
     obtain ⟨h1,h2⟩:=(hex j t e xs hj).all hT
     by_cases hit:i=t
     ·subst hit
      rw [hk.1] at hr
      rcases hr with hr | ⟨_,hr⟩ <;> cases hr
     ·have:=h2 i k hit hr
      cases this
   | box t fr to cs =>
    simp only [AK.slot,Option.some.injEq] at hs
    subst hs
    rw [hk.1,ZeZ fr false] at hp
    rcases hbx j t fr to cs hj with hnr | hdr | hdr
    ·cases k with
     | zero => simp [mkB, Zr] at hp
     | succ k =>
      simp only [mkB,Zr] at hp
      split at hp
      ·rename_i e xs hx
       exact hnr _ (List.mem_of_getElem? hx) e xs rfl
      ·cases hp
    ·obtain ⟨h1,h2⟩:=hdr.all hT
     by_cases hit:i=t
     ·subst hit
      rw [hk.1] at hr
      cases fr<;>rcases hr with hr | ⟨_,hr⟩ <;> cases hr
     ·have:=h2 i k hit hr
      cases this
    ·obtain ⟨a,ha',hsa⟩:=hdr σ' hT i k hr
     exact hni a ha' hsa
  have hkg:∀ d',(σ' d').isG=true→(JF σ' (ZbX aks outs) d').isG=true∧XaA X X' aks d' 0=X d' 0:=by
   intro d' hd'
   obtain ⟨cs,hcs⟩:∃ cs,σ' d'=mkB true cs:=by
    generalize σ' d'=x at hd'
    cases x<;>simp [AV.isG] at hd'
    exact ⟨_,rfl⟩
   obtain ⟨⟨cs',h1,_⟩,h3⟩:=hkeep d' true cs hcs
   exact ⟨by rw [h1];rfl,h3⟩
  refine ⟨fun d=>?_,hsim.size,fun d hd=>?_,fun d hd=>?_,fun d k d' k' b h h'=>?_,fun d k b h=>?_,hsim.frm.step hstep hSours,fun d v hv=>?_,fun d e xs hdo=>?_,fun d b hb=>?_⟩
  ·rcases hpass d with ⟨i,a,h1,h2,h3⟩ | ⟨h1,h2⟩
   ·cases a with
    | imm y => simp [AK.slot] at h3
    | clo _ _ _ => simp [AK.slot] at h3
    | pad => simp [AK.slot] at h3
    | own t x e xs =>
     simp only [AK.slot,Option.some.injEq] at h3
     subst h3
     obtain ⟨y,hy⟩:=houtAt i _ h2
     rw [Yo aks outs σ' i (.own t x e xs) y t hol.symm hnd h2 hy rfl]
     trivial
    | ref t x e xs =>
     simp only [AK.slot,Option.some.injEq] at h3
     subst h3
     obtain ⟨y,hy⟩:=houtAt i _ h2
     rw [Yo aks outs σ' i (.ref t x e xs) y t hol.symm hnd h2 hy rfl]
     trivial
    | box d' fr to cs =>
     simp only [AK.slot,Option.some.injEq] at h3
     subst h3
     obtain ⟨cs',b,g1,g2,g3,g4,g5,g6⟩:=hboxOut i d' fr to cs h2
     rw [g6]
     have hrow:XaA X X' aks d'=X' i:=by funext k;simp only [XaA,h1]
     cases fr with
     | false =>
      show ZG c.P w' lim' (XaA X X' aks d') cs' _
      rw [hrow,g3 rfl]
      exact g2
     | true => exact ⟨_, by rw [hrow]; exact g2⟩
   ·rw [ZX aks outs σ' d h2]
    have hm:=(hsim.rel d).mono hstep.ext (fun k b hb=>hstep.blk b (hsim.ours d k b hb).1 (hXold d k b h2 hb)) fun d' k b he hb=>
     .of (hstep.blk b (hsim.ours d' k b hb).1 (hXold d' k b (href d d' k (.inl he) h2) hb)).1
    refine hm.chg (by funext k;simp only [XaA,h1]) hkb hkg fun d' k hr=>?_
    have hno:=href d d' k hr h2
    refine ⟨by rw [ZX aks outs σ' d' hno];exact VA.refl _ _,?_⟩
    rcases hpass d' with ⟨i,a,_,k2,k3⟩ | ⟨k1,_⟩
    ·exact (hno a (List.mem_of_getElem? k2) k3).elim
    ·simp only [XaA,k1]
  ·rcases hsim.out d hd with h | h
   ·left
    have hno:∀ a∈aks,a.slot≠some d:=by
     intro a ha hs
     obtain ⟨i,hi⟩:=List.mem_iff_getElem?.1 ha
     have hok':=hok i a hi
     cases a with
     | imm y => simp [AK.slot] at hs
     | clo _ _ _ => simp [AK.slot] at hs
     | pad => simp [AK.slot] at hs
     | own t x e xs =>
      simp only [AK.slot,Option.some.injEq] at hs
      subst hs
      rw [hok'.1] at h
      cases h
     | ref t x e xs =>
      simp only [AK.slot,Option.some.injEq] at hs
      subst hs
      rw [hok'.1] at h
      cases h
     | box t fr to cs =>
      simp only [AK.slot,Option.some.injEq] at hs
      subst hs
      rw [hok'.1] at h
      cases fr<;>cases h
    rw [ZX aks outs σ' d hno]
    exact h
   ·exact .inr (hkg d h).1
  ·rcases hpass d with ⟨i,a,h1,h2,h3⟩ | ⟨h1,h2⟩
   ·cases a with
    | imm y => simp [AK.slot] at h3
    | clo _ _ _ => simp [AK.slot] at h3
    | pad => simp [AK.slot] at h3
    | own t x e xs =>
     simp only [AK.slot,Option.some.injEq] at h3
     subst h3
     obtain ⟨y,hy⟩:=houtAt i _ h2
     rw [Yo aks outs σ' i (.own t x e xs) y t hol.symm hnd h2 hy rfl] at hd
     cases hd
    | ref t x e xs =>
     simp only [AK.slot,Option.some.injEq] at h3
     subst h3
     obtain ⟨y,hy⟩:=houtAt i _ h2
     rw [Yo aks outs σ' i (.ref t x e xs) y t hol.symm hnd h2 hy rfl] at hd
     cases hd
    | box d' fr to cs =>
     simp only [AK.slot,Option.some.injEq] at h3
     subst h3
     obtain ⟨cs',b,g1,g2,g3,g4,g5,g6⟩:=hboxOut i d' fr to cs h2
     rw [g6,Zd3] at hd
     exact hsim.ghost d' (by rw [(hok i _ h2).1,Zd3];exact hd)
   ·rw [ZX aks outs σ' d h2] at hd
    exact hsim.ghost d hd
  ·rcases hXa d k b h with ⟨i,a,fr,to,cs,g1,g2,g3⟩ | ⟨g1,g2,g3⟩ <;> rcases hXa d' k' b h' with ⟨i',a',fr',to',cs',g1',g2',g3'⟩ | ⟨g1',g2',g3'⟩
   ·obtain ⟨e1,e2⟩:=hdist' i k i' k' b g3 g3'
    subst e1
    rw [g2] at g2'
    simp only [Option.some.injEq,AK.box.injEq] at g2'
    exact ⟨g2'.1,e2⟩
   ·rcases (hours' i k b g3).2 with hS | hS
    ·exact (hXold d' k' b g2' g3' hS).elim
    ·have:=(hsim.ours d' k' b g3').1;omega
   ·rcases (hours' i' k' b g3').2 with hS | hS
    ·exact (hXold d k b g2 g3 hS).elim
    ·have:=(hsim.ours d k b g3).1;omega
   ·exact hsim.dist d k d' k' b g3 g3'
  ·rcases hXa d k b h with ⟨i,a,fr,to,cs,g1,g2,g3⟩ | ⟨g1,g2,g3⟩
   ·refine ⟨(hours' i k b g3).1,?_⟩
    rcases (hours' i k b g3).2 with hS | hS
    ·exact hSours b hS
    ·exact .inr (Nat.le_trans hsim.frm.size hS)
   ·exact ⟨Nat.lt_of_lt_of_le (hsim.ours d k b g3).1 hstep.size,(hsim.ours d k b g3).2⟩
  ·obtain ⟨p1,cs,p2⟩:=hsim.pin d v hv
   obtain ⟨⟨cs',h1⟩,_⟩:=hkb d cs p2
   exact ⟨p1,cs',h1⟩
  ·rcases hpass d with ⟨i,a,h1,h2,h3⟩ | ⟨h1,h2⟩
   ·exfalso
    cases a with
    | imm y => simp [AK.slot] at h3
    | clo _ _ _ => simp [AK.slot] at h3
    | pad => simp [AK.slot] at h3
    | own t x e xs =>
     simp only [AK.slot,Option.some.injEq] at h3
     subst h3
     obtain ⟨y,hy⟩:=houtAt i _ h2
     rw [Yo aks outs σ' i (.own t x e xs) y t hol.symm hnd h2 hy rfl] at hdo
     cases hdo
    | ref t x e xs =>
     simp only [AK.slot,Option.some.injEq] at h3
     subst h3
     obtain ⟨y,hy⟩:=houtAt i _ h2
     rw [Yo aks outs σ' i (.ref t x e xs) y t hol.symm hnd h2 hy rfl] at hdo
     cases hdo
    | box d' fr to cs =>
     simp only [AK.slot,Option.some.injEq] at h3
     subst h3
     obtain ⟨cs',b,g1,g2,g3,g4,g5,g6⟩:=hboxOut i d' fr to cs h2
     rw [g6] at hdo
     cases fr<;>cases hdo
   ·rw [ZX aks outs σ' d h2] at hdo
    rw [show XaA X X' aks d=X d from by funext k;simp only [XaA,h1]]
    exact (hsim.mp d e xs hdo).mono hstep.ext fun k b hb=>hstep.blk b (hsim.ours d k b hb).1 (hXold d k b h2 hb)
  ·obtain ⟨p1,p2⟩:=hsim.gpin d b hb
   obtain ⟨h1,h2⟩:=hkg d p2
   exact ⟨h2.trans p1,h1⟩
 -- the result
 have hresv:ZK c.P w' lim' X' (ZM (outs++[res])) aks.length res v:=by
  have h1:=hrel' aks.length
  have ho1:ZM (outs++[res]) aks.length=res:=by
   simp only [ZM]
   rw [List.getElem?_append_right (by omega),hol]
   simp
  have hv:WX (aks.map AK.av).length cargs v aks.length=v:=by
   unfold WX
   rw [if_pos (by rw [List.length_map])]
  rw [ho1,hv] at h1
  exact h1
 have hresg:res.isG=false:=by
  rcases hres with (⟨u,rfl⟩ | ⟨cs,rfl⟩ | ⟨f,s,xs,rfl⟩) | ⟨b,e,xs,rfl⟩ | ⟨vs,rfl⟩ | ⟨cs,rfl⟩ <;> rfl
 cases hdst:o.dst with
 | none => exact ⟨lim', _, hafter⟩
 | some d =>
  intro hd hm
  refine ⟨lim',_,hafter.putRow (X' aks.length) (ZT.refl w' lim' (fun _=>False)) (fun _ hs=>hs.elim) hd (tm':=tm.setIfInBounds d v) (by simp) (fun i hi=>ZZ tm d i v hi) (.inl (ZL hm).1) (fun i q hi hr=>(hafter.noRefs (ZL hm).none i q hi hr).elim) ?_ (fun k b hk=>⟨(hours' _ k b hk).1,?_,fun i j hi hij=>?_⟩) (fun k k' b hk hk'=>(hdist' _ k _ k' b hk hk').2) hresg (fun e xs he=>.noMap (hrm e xs he))⟩
  ·rw [J5 tm d v (by rw [hsim.size];exact hd)]
   exact ZhU hres hresv (Zs _ d _)
  ·rcases (hours' _ k b hk).2 with ⟨i,k',hS⟩ | hS
   ·obtain ⟨a,d',_,_,h3⟩:=hXof i k' b hS
    exact (hsim.ours d' k' b h3).2
   ·exact .inr (Nat.le_trans hsim.frm.size hS)
  ·unfold XaA at hij
   rcases hpass i with ⟨m,a,h1,h2,h3⟩ | ⟨h1,h2⟩
   ·rw [h1] at hij
    cases a with
    | imm y => simp at hij
    | own t x e xs => simp at hij
    | clo _ _ _ => simp at hij
    | ref _ _ _ _ => simp at hij
    | pad => simp at hij
    | box d' fr to cs =>
     obtain ⟨e1,_⟩:=hdist' _ _ _ _ b hk hij
     have:=(List.getElem?_eq_some_iff.1 h2).1
     omega
   ·rw [h1] at hij
    rcases (hours' _ k b hk).2 with ⟨i',k',hS⟩ | hS
    ·obtain ⟨a,d',g1,g2,g3⟩:=hXof i' k' b hS
     obtain ⟨e1,_⟩:=hsim.dist i j d' k' b hij g3
     subst e1
     exact h2 a (List.mem_of_getElem? g1) g2
    ·have:=(hsim.ours i j b hij).1;omega
theorem Zdh {P:Program} {o:Oper} {σ:Nat→AV} {f:FuncId} {first captured:Array Operand} {ds:List Nat} (ho:o.op = .makeFunc (.func f) first captured) (hf:first.toList = [])
  (hl:captured.toList.length=ds.length) (hc:∀ (i:Nat) (x:Operand) (d:Nat),(captured.toList)[i]? = some x→ds[i]? = some d→Zm P σ x = .ptr d 0∧∃ cs,σ d = .box cs):JK P o σ (.clo f ds) [] ds:=by
 have hf':first = #[]:=by apply Array.toList_inj.1;rw [hf]
 refine Zv ds rfl fun c hcP σ' tm w lim X hg hfp hsim=>⟨.func (.func f) #[] (captured.map (Act.eval ⟨tm,[]⟩)),?_,?_⟩
 ·simp [execOp,ho,Instr.makeFunc,hf']
 ·have hb:∀ i:Nat,∃ b:Nat,∀ (x:Operand) (d:Nat),(captured.toList)[i]? = some x→ds[i]? = some d→Act.eval ⟨tm,[]⟩ x = .pointer (some ⟨b,0,none⟩)∧X d 0=some b∧(σ' d).isB=true:=by
   intro i
   cases hx:captured.toList[i]? with
   | none => exact ⟨0, fun x d h => by cases h⟩
   | some x =>
    cases hd:ds[i]? with
    | none => exact ⟨0, fun x d _ h => by cases h⟩
    | some d =>
     obtain ⟨h1,cs,h2⟩:=hc i x d hx hd
     rw [ho] at hg
     have hv:=YF hcP hsim h1 (hg x (by
      have:=List.mem_of_getElem? hx
      simp [Op.operands,Array.mem_toList_iff.1 this]))
     obtain ⟨b,cs',m1,m2,m3⟩:=hv
     refine ⟨b,fun y e hy he=>?_⟩
     cases hy
     cases he
     exact ⟨m3,m1,by rw [m2];rfl⟩
  obtain ⟨bf,hbf⟩:=Classical.axiomOfChoice hb
  have hat:∀ i,i < ds.length→∃ x,captured.toList[i]? = some x:=fun i hi=>⟨_,List.getElem?_eq_getElem (by rw [hl];exact hi)⟩
  refine ⟨(List.range ds.length).map bf,?_,by simp,fun i d b hd hb=>?_⟩
  ·have:captured.map (Act.eval ⟨tm,[]⟩)=(((List.range ds.length).map bf).map fun b=>Value.pointer (some ⟨b,0,none⟩)).toArray:=by
    apply Array.toList_inj.1
    rw [Array.toList_map]
    apply List.ext_getElem?
    intro i
    rw [List.getElem?_map,List.getElem?_map,List.getElem?_map]
    by_cases hi:i < ds.length
    ·obtain ⟨x,hx⟩:=hat i hi
     rw [hx,List.getElem?_range hi]
     simp only [Option.map_some]
     exact congrArg some (hbf i x _ hx (List.getElem?_eq_getElem hi)).1
    ·rw [List.getElem?_eq_none (by rw [hl];omega),List.getElem?_eq_none (by simp;omega)]
     rfl
   rw [this]
  ·have hi:=(List.getElem?_eq_some_iff.1 hd).1
   obtain ⟨x,hx⟩:=hat i hi
   rw [List.getElem?_map,List.getElem?_range hi] at hb
   simp only [Option.map_some,Option.some.injEq] at hb
   subst hb
   exact ⟨(hbf i x d hx hd).2.1,(hbf i x d hx hd).2.2⟩
end Go.AM
end

section
namespace Go.AM
def ZE (y:AV) (k:Nat) (b:Bool) (e:TypeId) (xs:List (List AV)):AV:=
 match y,k with
 | .own _ _ _, 0 => .own b e xs
 | .box cs, k + 1 => .box (cs.set k (.own b e xs))
 | y, _ => y
theorem VD {w:World} {b:Nat} {cur cs:Array Value} {t:TypeId} (hg:w.heap[b]? = some (.cells cur t (0,0))) (hs:cs.size=cur.size) (b':Nat):WV w (w.setRow b cs) b':=by
 by_cases h:b'=b
 ·subst h
  refine ⟨fun arr e h1=>?_,fun es clock h1=>?_⟩
  ·rw [hg] at h1
   simp only [Option.some.injEq,Obj.cells.injEq,and_true] at h1
   obtain ⟨rfl,rfl⟩:=h1
   exact ⟨cs,setRow_heap w b' cur cs t _ hg,hs⟩
  ·rw [hg] at h1;cases h1
 ·exact .of (setRow_other w b b' cs h)
theorem Sim.setPlace {c:Ctx} {σ:Nat→AV} {tm:Array Value} {w:World} {lim:Nat→Nat} {X:Nat→Nat→Option Nat} (h:Sim c σ tm w lim X) {d k b:Nat} {e:TypeId} {xs xs':List (List AV)} {arr arr':Array Value}
  (hp:Zr (σ d) k=some (e,xs)) (hng:(σ d).isG=false) (hX:X d k=some b) (hheap:w.heap[b]? = some (.cells arr e (0,0))) (hsz:arr'.size=arr.size) (hl:xs'.length=xs.length) (h1:∀ x∈xs',x.length=c.P.cellsOf e) (h2:∀ x∈xs',∀ z∈x,z.isCell=true)
  (hr:∀ (j:Nat) (z:AV) (u:Value),xs'.flatten[j]? = some z→arr'[j]? = some u→Rep w lim z u) :
  ∃ X',Sim c (upd σ d (ZE (σ d) k true e xs')) tm (w.setRow b arr') lim X':=by
 have hnew:∀ v,Z9 c.P w lim true e xs v (some b)→Z9 c.P (w.setRow b arr') lim true e xs' v (some b):=by
  intro v ho
  obtain ⟨arr0,cap,g1,g2,g3,g4,g5,g6,g7,g8,g9⟩:=Vb ho (.inr ⟨_,_,_,hheap⟩)
  rw [hheap] at g2
  simp only [Option.some.injEq,Obj.cells.injEq,and_true] at g2
  subst g2
  have hstep:=Je (cs:=arr') hheap g3
  rw [g1,← hl]
  exact WS (setRow_heap w b arr arr' e _ hheap) g3 (by omega) g5 (by rw [hsz];exact g6) h1 h2 fun j z u hz hu=>(hr j z u hz hu).mono hstep.ext
 have hlim:lim b=0:=by
  obtain ⟨v,ho⟩:=K6 h hp
  rw [hX] at ho
  obtain ⟨_,_,_,_,g3,_⟩:=Vb ho (.inr ⟨_,_,_,hheap⟩)
  exact g3
 have hstep:=Je (cs:=arr') hheap hlim
 have hrel:=h.rel d
 rcases ZB hp with ⟨ho,rfl⟩ | ⟨cs,q,ho,rfl,hq⟩ | ⟨cs,q,ho,rfl,hq⟩
 case inr.inr=>rw [ho] at hng;cases hng
 ·have hdn:d < c.nt:=W4 h (by rw [ho];exact fun h=>by cases h) (by rw [ho];rfl)
  rw [ho] at hrel
  refine ⟨_,h.putRow (hmp:=fun e1 xs1 _=>.cells fun b' hb'=>by rw [hX] at hb';cases hb';exact ⟨_,_,_,setRow_heap w b arr arr' e _ hheap⟩) (S:=fun b'=>b'=b) (X d) hstep (fun b' hb'=>⟨0,by rw [hb'];exact hX⟩) hdn rfl (fun i _=>rfl) (.inl fun cs hcs=>by rw [ho] at hcs;cases hcs) (fun i q hi hr=>?_) ?_ (fun k b' hk=>?_) (fun k k' b' hk hk'=>(h.dist d k d k' b' hk hk').2) (by rw [ho];rfl)⟩
  ·refine ⟨fun e' ys hy=>?_,rfl,fun b' _=>VD hheap hsz b'⟩
   rw [ho] at hy ⊢
   cases q with
   | succ q => simp [Zr] at hy
   | zero =>
    simp only [Zr,Option.some.injEq,Prod.mk.injEq] at hy
    obtain ⟨rfl,rfl⟩:=hy
    exact ⟨xs',rfl,hl⟩
  ·rw [ho]
   show Z9 c.P _ lim true e xs' _ (W2 X d (X d) d 0)
   rw [Zs,hX]
   refine hnew _ ?_
   rw [← hX]
   exact hrel
  ·exact ⟨by have:=(h.ours d k b' hk).1;simpa using this,(h.ours d k b' hk).2,fun i j hi hij=>hi (h.dist i j d k b' hij hk).1⟩
 ·have hdn:d < c.nt:=W4 h (by rw [ho];exact fun h=>by cases h) (by rw [ho];rfl)
  rw [ho] at hrel
  obtain ⟨b0,arr0,t0,g1,g2,g3,g4,g5,g6,g7⟩:=(show ZG c.P w lim (X d) cs _ from hrel)
  have hne:b0≠b:=fun e'=>by
   have:=(h.dist d (q+1) d 0 b hX (by rw [← e'];exact g1)).2
   omega
  refine ⟨_,h.putRow (hmp:=fun e1 xs1 he=>by rw [ho] at he;simp [ZE] at he) (S:=fun b'=>b'=b) (X d) hstep (fun b' hb'=>⟨q+1,by rw [hb'];exact hX⟩) hdn rfl (fun i _=>rfl) (.inr ⟨⟨_,by rw [ho];rfl⟩,rfl,rfl⟩) (fun i q' hi hr=>?_) ?_ (fun k b' hk=>?_) (fun k k' b' hk hk'=>(h.dist d k d k' b' hk hk').2) (by rw [ho];rfl)⟩
  ·refine ⟨fun e' ys hy=>?_,rfl,fun b' _=>VD hheap hsz b'⟩
   rw [ho] at hy ⊢
   cases q' with
   | zero => simp [Zr] at hy
   | succ q' =>
    simp only [ZE,Zr] at hy ⊢
    by_cases hqq:q'=q
    ·subst hqq
     rw [hq] at hy
     simp only [Option.some.injEq,Prod.mk.injEq] at hy
     obtain ⟨rfl,rfl⟩:=hy
     rw [List.getElem?_set_self (List.getElem?_eq_some_iff.1 hq).1]
     exact ⟨xs',rfl,hl⟩
    ·rw [List.getElem?_set_ne (fun h=>hqq h.symm)]
     exact ⟨ys,hy,rfl⟩
  ·rw [ho]
   refine ⟨b0,arr0,t0,by rw [Zs];exact g1,g2,(setRow_other w b b0 arr' hne).trans g3,by rw [List.length_set];exact g4,g5,fun x hx=>?_,fun i x u hx hu=>?_⟩
   ·rcases List.mem_or_eq_of_mem_set hx with hx | hx
    ·exact g6 x hx
    ·exact .inr (.inl ⟨_,_,_,hx⟩)
   ·rw [Zs]
    by_cases hi:i=q
    ·subst hi
     rw [List.getElem?_set_self (List.getElem?_eq_some_iff.1 hq).1] at hx
     simp only [Option.some.injEq] at hx
     subst hx
     show Z9 c.P _ lim true e xs' u (X d (i+1))
     rw [hX]
     refine hnew u ?_
     rw [← hX]
     exact g7 i _ u hq hu
    ·rw [List.getElem?_set_ne (fun h=>hi h.symm)] at hx
     refine (g7 i x u hx hu).mono hstep.ext fun b' hb'=>hstep.blk b' (h.ours d (i+1) b' hb').1 fun e'=>?_
     have:=(h.dist d (i+1) d (q+1) b' hb' (by rw [e'];exact hX)).2
     omega
  ·exact ⟨by have:=(h.ours d k b' hk).1;simpa using this,(h.ours d k b' hk).2,fun i j hi hij=>hi (h.dist i j d k b' hij hk).1⟩
theorem ZiO {P:Program} {o:Oper} {σ:Nat→AV} {T e:TypeId} {t t':Operand} {i:TypeInfo} {z:Value} {zc zc':List AV} {k:IntKind} {m:Int} (x:Bool) (ho:o.op = .makeSlice T t t') (hT:P.underlying T=some (.slice e)) (hi:P.info? e=some i)
  (hz:i.zero=some z) (hzs:z.cells.size=i.size) (hzc:W9 z.cells.toList=some zc) (ht:Zm P σ t = .val (.int k m)) (ht':Zm P σ t' = .val (.int k m)) (h0:0≤m) (hm:m.toNat*(i.bytes+1)≤Jc)
  (hw:zc'.length=zc.length∧∀ (w:World) (lim:Nat→Nat) (us:List Value),J7 w lim zc us→J7 w lim zc' us) :
  JK P o σ (.own x e (List.replicate m.toNat zc')) [] []:=by
 intro c hc σ' tm w lim X hid hag hsim next Q hn
 have hg:Zm P σ' t=Zm P σ t:=ZF fun u hu=>hid u (by simp [Zu (o:=o) (x:=t) (by rw [ho];simp [Op.operands]) hu])
 have hg':Zm P σ' t'=Zm P σ t':=ZF fun u hu=>hid u (by simp [Zu (o:=o) (x:=t') (by rw [ho];simp [Op.operands]) hu])
 have hv:Act.eval ⟨tm,[]⟩ t = .int k m:=Z6 hc hsim ht hg
 have hv':Act.eval ⟨tm,[]⟩ t' = .int k m:=Z6 hc hsim ht' hg'
 have hsz:P.cellsOf e=i.size:=Zx hi
 have hzr:=hw.2 w lim _ (YQ (w:=w) (lim:=lim) hzc)
 have hzl:z.cells.toList.length=i.size:=by rw [← hzs];simp
 have hb1:m.toNat≤1099511627776:=by
  have:m.toNat*1≤m.toNat*(i.bytes+1):=Nat.mul_le_mul_left _ (by omega)
  unfold Jc at hm
  omega
 have hb2:(i.bytes:Int)*m≤281474976710656:=by
  have h1:m.toNat*i.bytes≤m.toNat*(i.bytes+1):=Nat.mul_le_mul_left _ (by omega)
  unfold Jc at hm
  have h2:((m.toNat*i.bytes:Nat):Int)=(i.bytes:Int)*m:=by
   rw [Int.natCast_mul,Int.mul_comm]
   congr 1
   omega
  omega
 have hmx:(1099511627776:Nat)≤maxLen:=by decide
 have hrun:=run_make (P:=P) w T e i z hT hi hz k k m m h0 (Int.le_refl _) hb2 (by omega)
 have hmade:madeCells z.cells (m.toNat*i.size)=((List.replicate m.toNat z.cells.toList).flatten).toArray:=by
  have:=replicate_zero z.cells.toList m.toNat
  rw [hzl,Array.toArray_toList] at this
  exact this
 have hrl:=Yw hzr m.toNat
 have hx1:∀ x∈List.replicate m.toNat zc',x.length=P.cellsOf e:=by
  intro x hx
  rw [(List.mem_replicate.1 hx).2,hzr.1,hzl,hsz]
 have hstep:=YY w lim (madeCells z.cells (m.toNat*i.size)) e (if x=true then 0 else m.toNat*i.size) (fun _=>False)
 have hx2:∀ x∈List.replicate m.toNat zc',∀ y∈x,y.isCell=true:=fun x hx y hy=>by
  rw [(List.mem_replicate.1 hx).2] at hy
  exact hzr.2.1 y hy
 have hx3:∀ (j:Nat) (y:AV) (u:Value),(List.replicate m.toNat zc').flatten[j]? = some y→(madeCells z.cells (m.toNat*i.size))[j]? = some u→Rep (w.alloc (.cells (madeCells z.cells (m.toNat*i.size)) e)) (fun b=>if b=w.heap.size then (if x=true then 0 else m.toNat*i.size) else lim b) y u:=fun j y u hy hu=>(hrl.2.2 j y u hy (by rw [hmade] at hu;simpa using hu)).mono hstep.ext
 have hms:(madeCells z.cells (m.toNat*i.size)).toList.length=m.toNat*i.size:=by rw [Array.length_toList,size_madeCells]
 have key:Z9 P (w.alloc (.cells (madeCells z.cells (m.toNat*i.size)) e)) (fun b=>if b=w.heap.size then (if x=true then 0 else m.toNat*i.size) else lim b) x e (List.replicate m.toNat zc') (.slice (some ⟨w.heap.size,0,none⟩) (List.replicate m.toNat zc').length m.toNat) (some w.heap.size):=by
  cases x
  ·refine .inl ⟨(madeCells z.cells (m.toNat*i.size)).toList,⟨by rw [hms,List.length_replicate,hsz],.inr ⟨w.heap.size,m.toNat,_,rfl,Nat.zero_le _,YN w _ e,by simp,by omega,by rw [size_madeCells,hsz],List.take_of_length_le (by rw [hms,List.length_replicate,hsz];exact Nat.le_refl _)⟩⟩,rfl,fun b hb=>?_,hx1,hx2,fun j y u hy hu=>hx3 j y u hy (by simpa using hu)⟩
   cases hb
   show (if w.heap.size=w.heap.size then (if false=true then 0 else m.toNat*i.size) else lim w.heap.size)=_
   rw [if_pos rfl,hms]
  ·exact WS (YN w _ e) (if_pos rfl) (by simp) (by omega) (by rw [size_madeCells,hsz]) hx1 hx2 hx3
 rw [List.length_replicate] at key
 have hw2:=hsim.world hstep fun _ hs=>hs.elim
 refine Zk (v:=.slice (some ⟨w.heap.size,0,none⟩) m.toNat m.toNat) (w':=w.alloc (.cells (madeCells z.cells (m.toNat*i.size)) e)) ?_ (hn _ _ (Z4 hw2 (by rw [hc];exact key) (fun b hb=>?_) fun _=>.cells fun b hb=>by cases hb;exact ⟨_,_,_,YN w _ e⟩))
 ·simp only [execOp,ho,hv,hv',Sem.run_bind,hrun,Result.andThen_ok,Sem.run_pure]
 ·simp only [Option.some.injEq] at hb
  subst hb
  exact ⟨.inr hsim.frm.size,fun i j=>Ka hsim i j⟩
theorem WD {c:Ctx} {σ:Nat→AV} {tm:Array Value} {w:World} {lim:Nat→Nat} {X:Nat→Nat→Option Nat} (h:Sim c σ tm w lim X) {d q k:Nat} {e:TypeId} {xs:List (List AV)} {v:Value}
  (hd:Zr (σ d) q=some (e,xs)) (hv:ZK c.P w lim X σ k (.mref d q) v) (hnm:Zo c.P e=false):(xs = []∧(v = .slice none 0 0∨∃ a,v = .slice (some a) 0 0))∨
   ∃ b arr cap cap',X d q=some b∧v = .slice (some ⟨b,0,none⟩) xs.length cap'∧w.heap[b]? = some (.cells arr e (0,0))∧lim b=0∧xs.length≤cap∧cap≤maxLen∧
   arr.size=cap*c.P.cellsOf e∧(∀ x∈xs,x.length=c.P.cellsOf e)∧(∀ x∈xs,∀ c∈x,c.isCell=true)∧∀ (j:Nat) (c:AV) (u:Value),xs.flatten[j]? = some c→arr[j]? = some u→Rep w lim c u:=by
 obtain ⟨e',xs',h1,h2⟩:=hv
 rw [hd] at h1
 simp only [Option.some.injEq,Prod.mk.injEq] at h1
 obtain ⟨rfl,rfl⟩:=h1
 rcases h2 with ⟨_,h2,h3⟩ | ⟨b,arr,cap',h2,h3,h4,h5⟩ | ⟨h2,_⟩
 ·exact .inl ⟨List.eq_nil_of_length_eq_zero h2,h3⟩
 ·obtain ⟨u,ho⟩:=K6 h hd
  rw [h2] at ho
  obtain ⟨arr0,cap,g1,g2,g3⟩:=Vb ho (.inl hnm)
  exact .inr ⟨b,arr0,cap,cap',h2,h5,g2,g3⟩
 ·rw [hnm] at h2;cases h2
theorem ZbK {P:Program} {o:Oper} {σ:Nat→AV} {T e:TypeId} {x i:Operand} {d q:Nat} {xs:List (List AV)} {k:IntKind} {z:Int} (ho:o.op = .indexAddr T x i)
  (hT:P.underlying T=some (.slice e)) (hs0:P.cellsOf e≠0) (hx:Zm P σ x = .mref d q) (hd:Zr (σ d) q=some (e,xs)) (hi:Zm P σ i = .val (.int k z)) (h0:0≤z) (hz:z.toNat < xs.length) (hnm:Zo P e=false) :
  JK P o σ (.eref d q (z.toNat*P.cellsOf e+0)) [] [d]:=by
 refine Zv [d] rfl fun c hc σ' tm w lim X hg hfp hsim=>?_
 rw [ho] at hg
 have hv:=YF hc hsim hx (hg x (by simp [Op.operands]))
 have hiv:=Z6 hc hsim hi (hg i (by simp [Op.operands]))
 have hd':Zr (σ' d) q=some (e,xs):=by rw [hfp d (by simp),hd]
 rw [← hc] at hv
 rcases WD hsim hd' hv (by rw [hc];exact hnm) with ⟨rfl,_⟩ | ⟨b,arr,cap,cap',g1,g2,g3⟩
 ·simp at hz
 ·obtain ⟨inf,hinf⟩:=ZC hs0
  have hsz:P.cellsOf e=inf.size:=Zx hinf
  refine ⟨.pointer (some ⟨b,z.toNat*P.cellsOf e+0,none⟩),?_,b,e,xs,hd',g1,.inl ⟨hnm,rfl⟩⟩
  have hb:0≤z∧z < (xs.length:Int):=⟨h0,by omega⟩
  simp [execOp,ho,g2,hiv,Instr.indexAt,asIntOf,run_underlying hT,hb,Zn hinf,JH]
theorem JM {s:Nat} : ∀ (xs:List (List AV)) (k:Nat),(∀ x∈xs,x.length=s)→(xs.take k).flatten=xs.flatten.take (k*s)
 | [], k, _ => by simp
 | x :: xs, 0, _ => by simp
 | x :: xs, k + 1, h => by
  have hx:x.length=s:=h x (by simp)
  simp only [List.take_succ_cons,List.flatten_cons]
  rw [JM xs k fun y hy=>h y (by simp [hy]),List.take_append]
  have e1:(k+1)*s-x.length=k*s:=by rw [Nat.succ_mul];omega
  rw [e1,List.take_of_length_le (l:=x) (by rw [Nat.succ_mul];omega)]
theorem VB {s:Nat} : ∀ (xs:List (List AV)) (k:Nat),(∀ x∈xs,x.length=s)→(xs.drop k).flatten=xs.flatten.drop (k*s)
 | [], k, _ => by simp
 | x :: xs, 0, _ => by simp
 | x :: xs, k + 1, h => by
  have hx:x.length=s:=h x (by simp)
  simp only [List.drop_succ_cons,List.flatten_cons]
  rw [VB xs k fun y hy=>h y (by simp [hy]),List.drop_append]
  have e1:(k+1)*s-x.length=k*s:=by rw [Nat.succ_mul];omega
  rw [e1,List.drop_of_length_le (l:=x) (by rw [Nat.succ_mul];omega)]
  rfl
theorem ZaU {s:Nat} {xs:List (List AV)} {i o:Nat} {e:List AV} (h:∀ x∈xs,x.length=s) (hi:i < xs.length) (ho:o+e.length≤s) :
  (JJ xs i o e).flatten=xs.flatten.take (i*s+o)++e++xs.flatten.drop (i*s+o+e.length):=by
 have hx:xs[i].length=s:=h _ (List.getElem_mem hi)
 have e0:xs=xs.take i++xs[i]::xs.drop (i+1):=by rw [List.getElem_cons_drop,List.take_append_drop]
 have hl:(xs.take i).flatten.length=i*s:=by
  rw [JM xs i h,List.length_take,Zl xs _ h]
  have:i*s≤xs.length*s:=Nat.mul_le_mul_right _ (by omega)
  omega
 have e1:JJ xs i o e=xs.take i++setCells xs[i] o e::xs.drop (i+1):=by
  unfold JJ
  rw [List.modify_eq_take_cons_drop hi]
 have e2:=congrArg List.flatten e0
 rw [List.flatten_append,List.flatten_cons] at e2
 rw [e1,e2]
 simp only [List.flatten_append,List.flatten_cons]
 rw [List.take_append,List.drop_append,hl,List.take_of_length_le (l:=(xs.take i).flatten) (by rw [hl];omega),List.drop_of_length_le (l:=(xs.take i).flatten) (by rw [hl];omega)]
 have e3:i*s+o-i*s=o:=by omega
 have e4:i*s+o+e.length-i*s=o+e.length:=by omega
 rw [e3,e4,List.take_append_of_le_length (by omega),List.drop_append_of_le_length (by omega)]
 unfold setCells
 simp only [List.nil_append,List.append_assoc]
theorem ZfT {s:Nat} {xs:List (List AV)} {i o:Nat} {e:List AV} (h:∀ x∈xs,x.length=s) (hc:∀ x∈xs,∀ c∈x,c.isCell=true) (ho:o+e.length≤s) (he:∀ c∈e,c.isCell=true) :
  ∀ x∈JJ xs i o e,x.length=s∧∀ c∈x,c.isCell=true:=by
 intro x hx
 obtain ⟨j,hj⟩:=List.mem_iff_getElem?.1 hx
 unfold JJ at hj
 rw [List.getElem?_modify] at hj
 cases hy:xs[j]? with
 | none => rw [hy] at hj; cases hj
 | some y =>
  rw [hy] at hj
  simp only [Option.map_eq_map,Option.map_some,Option.some.injEq] at hj
  subst hj
  split
  ·have hm:=List.mem_of_getElem? hy
   have hl:=h y hm
   refine ⟨by simp [setCells,hl];omega,fun c hcx=>?_⟩
   unfold setCells at hcx
   rcases List.mem_append.1 hcx with hcx | hcx
   ·rcases List.mem_append.1 hcx with hcx | hcx
    ·exact hc y hm c (List.mem_of_mem_take hcx)
    ·exact he c hcx
   ·exact hc y hm c (List.mem_of_mem_drop hcx)
  ·have hm:=List.mem_of_getElem? hy
   exact ⟨h y hm,hc y hm⟩
theorem ZgW {R:AV→Value→Prop} {zs vs:List AV} {us ws:List Value} {off:Nat} (h:∀ (j:Nat) (z:AV) (u:Value),zs[j]? = some z→us[j]? = some u→R z u) (h':∀ (j:Nat) (z:AV) (u:Value),vs[j]? = some z→ws[j]? = some u→R z u)
  (hl:vs.length=ws.length) (h1:off≤zs.length) (h2:off≤us.length) :
  ∀ (j:Nat) (z:AV) (u:Value),(zs.take off++vs++zs.drop (off+vs.length))[j]? = some z→(us.take off++ws++us.drop (off+ws.length))[j]? = some u→R z u:=by
 intro j z u hz hu
 have l1:(zs.take off).length=off:=by rw [List.length_take];omega
 have l2:(us.take off).length=off:=by rw [List.length_take];omega
 rw [List.append_assoc] at hz hu
 rcases Nat.lt_or_ge j off with hlt | hge
 ·rw [List.getElem?_append_left (by omega),List.getElem?_take_of_lt hlt] at hz hu
  exact h j z u hz hu
 ·rw [List.getElem?_append_right (by omega),l1] at hz
  rw [List.getElem?_append_right (by omega),l2] at hu
  rcases Nat.lt_or_ge (j-off) vs.length with hlt | hge'
  ·rw [List.getElem?_append_left hlt] at hz
   rw [List.getElem?_append_left (by omega)] at hu
   exact h' _ z u hz hu
  ·rw [List.getElem?_append_right hge',List.getElem?_drop] at hz
   rw [List.getElem?_append_right (by omega),List.getElem?_drop] at hu
   rw [← hl] at hu
   exact h _ z u hz hu
theorem Zdj {c:Ctx} {σ:Nat→AV} {tm:Array Value} {w:World} {lim:Nat→Nat} {X:Nat→Nat→Option Nat} (h:Sim c σ tm w lim X) {d q k p:Nat} {e:TypeId} {xs:List (List AV)} {v:Value}
  (hd:Zr (σ d) q=some (e,xs)) (hv:ZK c.P w lim X σ k (.eref d q p) v) (hnm:Zo c.P e=false) :
   ∃ b arr cap,X d q=some b∧v = .pointer (some ⟨b,p,none⟩)∧w.heap[b]? = some (.cells arr e (0,0))∧lim b=0∧xs.length≤cap∧cap≤maxLen∧
   arr.size=cap*c.P.cellsOf e∧(∀ x∈xs,x.length=c.P.cellsOf e)∧(∀ x∈xs,∀ c∈x,c.isCell=true)∧∀ (j:Nat) (c:AV) (u:Value),xs.flatten[j]? = some c→arr[j]? = some u→Rep w lim c u:=by
 obtain ⟨b,e',xs',h1,h2,h3⟩:=hv
 rw [hd] at h1
 simp only [Option.some.injEq,Prod.mk.injEq] at h1
 obtain ⟨rfl,rfl⟩:=h1
 obtain ⟨u,ho⟩:=K6 h hd
 rw [h2] at ho
 obtain ⟨arr0,cap,g1,g2,g3⟩:=Vb ho (.inl hnm)
 exact ⟨b,arr0,cap,h2,h3.ptr hnm,g2,g3⟩
theorem Zg9 {w:World} {lim:Nat→Nat} {xs:List (List AV)} {s i off n:Nat} {row:List AV} {arr:Array Value} {cap:Nat} (h1:∀ x∈xs,x.length=s) (h2:∀ x∈xs,∀ c∈x,c.isCell=true)
  (h3:∀ (j:Nat) (c:AV) (u:Value),xs.flatten[j]? = some c→arr[j]? = some u→Rep w lim c u) (h4:arr.size=cap*s) (h5:xs.length≤cap) (hrow:xs[i]? = some row) (hfit:off+n≤s) :
  ((arr.toList.drop (i*s+off)).take n).length=n∧((row.drop off).take n).length=n∧(∀ c∈(row.drop off).take n,c.isCell=true)∧
   ∀ (j:Nat) (c:AV) (u:Value),((row.drop off).take n)[j]? = some c→((arr.toList.drop (i*s+off)).take n)[j]? = some u→Rep w lim c u:=by
 have hi:=(List.getElem?_eq_some_iff.1 hrow).1
 have hrl:=h1 row (List.mem_of_getElem? hrow)
 have hm:i*s+s≤cap*s:=by
  rw [← Nat.succ_mul];exact Nat.mul_le_mul_right _ (by omega)
 refine ⟨by simp [h4];omega,by simp [hrl];omega,fun c hc=>h2 row (List.mem_of_getElem? hrow) c (List.mem_of_mem_drop (List.mem_of_mem_take hc)),fun j c u hc hu=>?_⟩
 rw [List.getElem?_take] at hc hu
 split at hc
 ·rename_i hj
  rw [if_pos hj,List.getElem?_drop] at hu
  rw [List.getElem?_drop] at hc
  refine h3 (i*s+(off+j)) c u ?_ ?_
  ·rw [KL xs s h1 i row hrow (off+j) (by omega)]
   exact hc
  ·rw [← Nat.add_assoc]
   simpa using hu
 ·cases hc
theorem Wu {P:Program} {o:Oper} {σ:Nat→AV} {T e:TypeId} {a:Operand} {d q i off:Nat} {xs:List (List AV)} {row:List AV} (ho:o.op = .load T a) (hT:JD P T=some true)
  (ha:Zm P σ a = .eref d q (i*P.cellsOf e+off)) (hd:Zr (σ d) q=some (e,xs)) (hrow:xs[i]? = some row) (hn:off+P.cellsOf T≤P.cellsOf e) (hnm:Zo P e=false):JK P o σ (.agg ((row.drop off).take (P.cellsOf T))) [] [d]:=by
 refine Zv [d] rfl fun c hc σ' tm w lim X hg hfp hsim=>?_
 rw [ho] at hg
 have hv:=YF hc hsim ha (hg a (by simp [Op.operands]))
 have hd':Zr (σ' d) q=some (e,xs):=by rw [hfp d (by simp),hd]
 rw [← hc] at hv
 obtain ⟨b,arr,cap,g1,g2,g3,g4,g5,g6,g7,g8,g9,g10⟩:=Zdj hsim hd' hv (by rw [hc];exact hnm)
 rw [hc] at g2 g7 g8
 obtain ⟨k1,k2,k3,k4⟩:=Zg9 (off:=off) (n:=P.cellsOf T) g8 g9 g10 g7 g5 hrow hn
 refine ⟨.agg ((arr.toList.drop (i*P.cellsOf e+off)).take (P.cellsOf T)).toArray,?_,?_⟩
 ·have:=VZ (w:=w) (b:=b) (off:=i*P.cellsOf e+off) hT k1 (fun j u hj=>by
   rw [ZS g3]
   rw [List.getElem?_take] at hj
   split at hj
   ·simpa using hj
   ·cases hj)
  simp [execOp,ho,g2,this]
 ·exact .agg (by rw [k1,k2]) k3 k4
theorem VP {P:Program} {o:Oper} {σ:Nat→AV} {T e:TypeId} {a:Operand} {d q i off:Nat} {xs:List (List AV)} {row:List AV} {x:AV} (ho:o.op = .load T a) (hT:JD P T=some false)
  (ha:Zm P σ a = .eref d q (i*P.cellsOf e+off)) (hd:Zr (σ d) q=some (e,xs)) (hrow:xs[i]? = some row) (hn:off+1≤P.cellsOf e) (hx:row[off]? = some x) (hnm:Zo P e=false):JK P o σ x [] [d]:=by
 intro c hc σ' tm w lim X hid hag hsim next Q hnx
 have hg:Zm P σ' a=Zm P σ a:=ZF fun t ht=>hid t (by simp [Zu (o:=o) (x:=a) (by rw [ho];simp [Op.operands]) ht])
 have hv:=YF hc hsim ha hg
 have hd':Zr (σ' d) q=some (e,xs):=by rw [hag d (by simp),hd]
 rw [← hc] at hv
 obtain ⟨b,arr,cap,g1,g2,g3,g4,g5,g6,g7,g8,g9,g10⟩:=Zdj hsim hd' hv (by rw [hc];exact hnm)
 rw [hc] at g2 g7 g8
 obtain ⟨k1,k2,k3,k4⟩:=Zg9 (off:=off) (n:=1) g8 g9 g10 g7 g5 hrow hn
 have e1:(row.drop off).take 1 = [x]:=by rw [List.take_one,List.head?_drop,hx];rfl
 obtain ⟨u,hu⟩:∃ u,(arr.toList.drop (i*P.cellsOf e+off)).take 1 = [u]:=List.length_eq_one_iff.1 k1
 rw [e1] at k3 k4
 rw [hu] at k4
 have hcell:w.cell? ⟨b,i*P.cellsOf e+off,none⟩=some u:=by
  rw [ZS g3]
  have h1:((arr.toList.drop (i*P.cellsOf e+off)).take 1)[0]? = some u:=by rw [hu];rfl
  rw [List.getElem?_take,if_pos (by omega),List.getElem?_drop] at h1
  simpa using h1
 obtain ⟨p1,p2⟩:=Vq (P:=P) (X:=X) (σ:=σ') (k:=0) (k3 x (by simp)) (k4 0 x u rfl rfl)
 refine Zk (v:=u) ?_ (hnx u w (Zy hsim p1 (k:=0) (by rw [hc];exact p2)))
 simp [execOp,ho,g2,JW hT hcell]
theorem ZbH {P:Program} {o:Oper} {σ:Nat→AV} {T e:TypeId} {a x:Operand} {d q i off:Nat} {xs:List (List AV)} {vc vc':List AV} {y:AV} (ho:o.op = .store T a x) (ha:Zm P σ a = .eref d q (i*P.cellsOf e+off)) (hd:Zr (σ d) q=some (e,xs)) (hng:(σ d).isG=false)
  (hx:Zm P σ x=y) (hy:y.cells? = some vc) (hn:vc.length=P.cellsOf T) (h0:P.cellsOf T≠0) (hi:i < xs.length) (hfit:off+P.cellsOf T≤P.cellsOf e)
  (hw:vc'.length=vc.length∧∀ (w:World) (lim:Nat→Nat) (us:List Value),J7 w lim vc us→J7 w lim vc' us) (hnm:Zo P e=false) :
  JK P o σ .dead [(d,ZE (σ d) q true e (JJ xs i off vc'))] [d]:=by
 intro c hc σ' tm w lim X hid hag hsim next Q hnx
 have hga:Zm P σ' a=Zm P σ a:=ZF fun t ht=>hid t (by simp [Zu (o:=o) (x:=a) (by rw [ho];simp [Op.operands]) ht])
 have hgx:Zm P σ' x=Zm P σ x:=ZF fun t ht=>hid t (by simp [Zu (o:=o) (x:=x) (by rw [ho];simp [Op.operands]) ht])
 have hsd:σ' d=σ d:=hag d (by simp)
 have hd':Zr (σ' d) q=some (e,xs):=by rw [hsd,hd]
 have hva:=YF hc hsim ha hga
 rw [← hc] at hva
 obtain ⟨us,h4,h5⟩:=Wv hy (YF hc hsim hx hgx)
 obtain ⟨b,arr,cap,g1,h3,g3,g4,g6,g7,g8,g9,g10,g11⟩:=Zdj hsim hd' hva (by rw [hc];exact hnm)
 rw [hc] at g8 g9 h3
 obtain ⟨inf,hinf⟩:=ZC h0
 have h5':=hw.2 w lim us h5
 have hlen:us.length=P.cellsOf T:=by rw [← h5.1,hn]
 have hmul:i*P.cellsOf e+P.cellsOf e≤xs.length*P.cellsOf e:=by
  rw [← Nat.succ_mul];exact Nat.mul_le_mul_right _ hi
 have hcap:xs.length*P.cellsOf e≤cap*P.cellsOf e:=Nat.mul_le_mul_right _ g6
 have hmem:=ZfT (i:=i) g9 g10 (by rw [hw.1,hn];exact hfit) h5'.2.1
 have hst:=KB (P:=P) (T:=T) (w:=w) (b:=b) (off:=i*P.cellsOf e+off) (v:=Act.eval ⟨tm,[]⟩ x) hinf h4 hlen g3 (by rw [hlen,g8];omega) (fun u hu=>by
  obtain ⟨j,hj⟩:=List.mem_iff_getElem?.1 hu
  have hlt:j < vc.length:=by rw [h5.1];exact (List.getElem?_eq_some_iff.1 hj).1
  exact (h5.2.2 j _ u (List.getElem?_eq_getElem hlt) hj).oneCell (h5.2.1 _ (List.getElem_mem hlt)))
 obtain ⟨X',hset⟩:=hsim.setPlace (xs':=JJ xs i off vc') (arr':=(arr.toList.take (i*P.cellsOf e+off)++us++arr.toList.drop (i*P.cellsOf e+off+us.length)).toArray) hd' (by rw [hsd];exact hng) g1 g3
  (by simp [g8];omega) (by simp [JJ]) (fun x hx=>by rw [hc];exact (hmem x hx).1) (fun x hx=>(hmem x hx).2) (fun j z u hz hu=>by
   rw [ZaU g9 (by omega) (by rw [hw.1,hn];exact hfit)] at hz
   refine ZgW (R:=Rep w lim) (us:=arr.toList) (fun j z u hz hu=>g11 j z u hz (by simpa using hu)) h5'.2.2 (by rw [hw.1,h5.1]) ?_ ?_ j z u hz (by simpa using hu)
   ·rw [Zl xs _ g9];omega
   ·simp [g8];omega)
 rw [hsd] at hset
 refine YT (w':=w.setRow b (arr.toList.take (i*P.cellsOf e+off)++us++arr.toList.drop (i*P.cellsOf e+off+us.length)).toArray) ?_ (hnx undef _ ?_)
 ·simp only [execOp,ho,h3,Sem.run_bind,hst,Result.andThen_ok,Sem.run_pure]
 ·exact Zy hset rfl (k:=0) trivial
theorem Zdz {P:Program} {o:Oper} {σ:Nat→AV} {cl:Call} {x:Operand} {T el e:TypeId} {d q:Nat} {xs:List (List AV)} (ho:o.op = .call cl) (hcl:cl.callee = .builtin .len)
  (hargs:cl.args.toList = [x]) (hts:cl.argTypes.toList = [T]) (hT:P.underlying T=some (.slice el)) (hx:Zm P σ x = .mref d q) (hd:Zr (σ d) q=some (e,xs)) (hnm:Zo P e=false):JK P o σ (.val (.int .i64 xs.length)) [] [d]:=by
 have hargs':cl.args = #[x]:=by apply Array.toList_inj.1;rw [hargs]
 have hts':cl.argTypes = #[T]:=by apply Array.toList_inj.1;rw [hts]
 refine Zv [d] rfl fun c hc σ' tm w lim X hg hfp hsim=>⟨.int .i64 xs.length,?_,.val rfl⟩
 rw [ho] at hg
 have hv:=YF hc hsim hx (hg x (by simp [Op.operands,Call.operands,hargs',hcl]))
 have hd':Zr (σ' d) q=some (e,xs):=by rw [hfp d (by simp),hd]
 rw [← hc] at hv
 have hform:∃ a cap,Act.eval ⟨tm,[]⟩ x = .slice a xs.length cap:=by
  rcases WD hsim hd' hv (by rw [hc];exact hnm) with ⟨rfl,h | ⟨a,h⟩⟩ | ⟨b,arr,cap,cap',g1,g2,g3⟩
  ·exact ⟨_,_,h⟩
  ·exact ⟨_,_,h⟩
  ·exact ⟨_,_,g2⟩
 obtain ⟨a,cap,g2⟩:=hform
 simp [execOp,ho,hcl,resolve,hargs',hts',invoke,builtin,Builtin.len_,g2,run_underlying hT,goInt]
theorem ZgC {P:Program} {w:World} {lim:Nat→Nat} {f:Bool} {ys:List (List AV)} {v:Value} (n:Nat) (h:Rep w lim (.slice f 1 ys) v) :
  (v = .slice none 0 0∧ys = [])∨∃ (a:Addr) (sLen sCap:Nat) (cs:List Value),v = .slice (some a) sLen sCap∧cs.length=Nat.min sLen n∧sLen=ys.length∧(∀ y∈ys,y.length=1∧∀ c∈y,c.isCell=true)∧(∀ j u,cs[j]? = some u→w.cell? (a.add j)=some u)∧
   (∀ u∈cs,u.oneCell'=true)∧∀ (j:Nat) (z:AV) (u:Value),(ys.take n).flatten[j]? = some z→cs[j]? = some u→Rep w lim z u:=by
 have key:∀ (y:AV),Rep w lim y v→y = .slice f 1 ys→(v = .slice none 0 0∧ys = [])∨∃ (a:Addr) (sLen sCap:Nat) (cs:List Value),v = .slice (some a) sLen sCap∧cs.length=Nat.min sLen n∧sLen=ys.length∧(∀ y∈ys,y.length=1∧∀ c∈y,c.isCell=true)∧(∀ j u,cs[j]? = some u→w.cell? (a.add j)=some u)∧
   (∀ u∈cs,u.oneCell'=true)∧∀ (j:Nat) (z:AV) (u:Value),(ys.take n).flatten[j]? = some z→cs[j]? = some u→Rep w lim z u:=by
  intro y hy hye
  cases hy with
  | sliceN => injection hye with h1 h2 h3; exact .inl ⟨rfl, h3.symm⟩
  | @sliceE f' s2 a cap hf =>
   injection hye with h1 h2 h3
   subst h3
   exact .inr ⟨a,0,cap,[],rfl,by simp,rfl,by simp,by simp,by simp,by simp⟩
  | @sliceC f' s2 xs b o cap us hs hc hf hle hlim hus hcell hr =>
   injection hye with h1 h2 h3
   subst h2
   subst h3
   have hfl:xs.flatten.length=us.length:=by rw [Zl xs _ hs,hus]
   refine .inr ⟨⟨b,o,none⟩,xs.length,cap,us.take n,rfl,?_,rfl,fun y hy=>⟨hs y hy,hc y hy⟩,fun j u hj=>?_,fun u hu=>?_,fun j z u hz hu=>?_⟩
   ·rw [List.length_take,hus,Nat.mul_one];exact Nat.min_comm _ _
   ·rw [List.getElem?_take] at hj
    split at hj
    ·rw [JH];exact hcell j u hj
    ·cases hj
   ·obtain ⟨j,hj⟩:=List.mem_iff_getElem?.1 (List.mem_of_mem_take hu)
    have hlt:j < xs.flatten.length:=by rw [hfl];exact (List.getElem?_eq_some_iff.1 hj).1
    have hz:xs.flatten[j]? = some xs.flatten[j]:=List.getElem?_eq_getElem hlt
    obtain ⟨l,hl,hzl⟩:=List.mem_flatten.1 (List.getElem_mem hlt)
    exact (hr j _ u hz hj).oneCell (hc l hl _ hzl)
   ·rw [JM xs n hs,Nat.mul_one,List.getElem?_take] at hz
    rw [List.getElem?_take] at hu
    split at hz
    ·rename_i hjn
     rw [if_pos hjn] at hu
     exact hr j z u hz hu
    ·cases hz
  | val _ => cases hye
  | agg _ _ _ => cases hye
 exact key _ h rfl
theorem Zc0 {P:Program} {w:World} {T T' ty e:TypeId} {v u:Value} {inf:TypeInfo} (hT:P.underlying T=some (.slice e)) (hi:P.info? e=some inf) (hv:v = .slice none 0 0∨∃ a,v = .slice (some a) 0 0)
  (hu:∃ b n c,u = .slice b n c):(Builtin.copy_ #[T,T'] ty #[v,u]).run P w = .ok (goInt 0) w:=by
 obtain ⟨b,n,c,rfl⟩:=hu
 have hl:∀ a,(loadCells a 0).run P w = .ok #[] w:=fun a=>run_loadCells_list (P:=P) w a [] (fun j v hj=>by simp at hj)
 have hz:Nat.min n 0=0:=Nat.min_zero n
 rcases hv with rfl | ⟨a,rfl⟩ <;> cases b<;>simp [Builtin.copy_,run_underlying hT,Zn hi,Builtin.lenOf,Builtin.firstCells,hz,hl,storeCells]
theorem Zca {P:Program} {o:Oper} {σ:Nat→AV} {cl:Call} {T T' e:TypeId} {x y:Operand} {d q:Nat} {xs ys:List (List AV)} {f:Bool} (ho:o.op = .call cl) (hcl:cl.callee = .builtin .copy)
  (hargs:cl.args.toList = [x,y]) (hts:cl.argTypes.toList = [T,T']) (hT:P.underlying T=some (.slice e)) (hs:P.cellsOf e=1) (hx:Zm P σ x = .mref d q) (hd:Zr (σ d) q=some (e,xs)) (hng:(σ d).isG=false) (hy:Zm P σ y = .slice f 1 ys) (hnm:Zo P e=false) :
  JK P o σ .dead [(d,ZE (σ d) q true e (ZmG xs ys))] [d]:=by
 have hargs':cl.args = #[x,y]:=by apply Array.toList_inj.1;rw [hargs]
 have hts':cl.argTypes = #[T,T']:=by apply Array.toList_inj.1;rw [hts]
 intro c hc σ' tm w lim X hid hag hsim next Q hn
 subst hc
 have hgx:Zm c.P σ' x=Zm c.P σ x:=ZF fun t ht=>hid t (by simp [Zu (o:=o) (x:=x) (by rw [ho];simp [Op.operands,Call.operands,hargs',hcl]) ht])
 have hgy:Zm c.P σ' y=Zm c.P σ y:=ZF fun t ht=>hid t (by simp [Zu (o:=o) (x:=y) (by rw [ho];simp [Op.operands,Call.operands,hargs',hcl]) ht])
 have hsd:σ' d=σ d:=hag d (by simp)
 have hd':Zr (σ' d) q=some (e,xs):=by rw [hsd,hd]
 have hyv:Rep w lim (.slice f 1 ys) (Act.eval ⟨tm,[]⟩ y):=YF rfl hsim hy hgy
 obtain ⟨inf,hinf⟩:=ZC (P:=c.P) (T:=e) (by omega)
 have hsz:c.P.cellsOf e=inf.size:=Zx hinf
 have hs1:(c.P.info? e).map (·.size)=some 1:=by rw [hinf,Option.map_some,← hsz,hs]
 have hsame:∀ xs',xs'=xs→JF σ' [(d,ZE (σ d) q true e xs')]=σ':=by
  rintro xs' rfl
  funext k
  simp only [JF,upd]
  split
  ·rename_i hk
   subst hk
   rw [hsd]
   rcases ZB hd with ⟨h1,rfl⟩ | ⟨cs,q,h1,rfl,h2⟩ | ⟨cs,q,h1,rfl,h2⟩
   case inr.inr=>rw [h1] at hng;cases hng
   ·rw [h1];rfl
   ·rw [h1]
    simp only [ZE,AV.box.injEq]
    apply List.ext_getElem?
    intro i
    by_cases hi:i=q
    ·subst hi
     rw [List.getElem?_set_self (List.getElem?_eq_some_iff.1 h2).1,h2]
    ·rw [List.getElem?_set_ne (fun h=>hi h.symm)]
  ·rfl
 rcases WD hsim hd' (YF rfl hsim hx hgx) hnm with ⟨rfl,hv0⟩ | ⟨b,arr,cap,cap',g1,g2,g3,g4,g6,g7,g8,g9,g10,g11⟩
 ·have hrun:=Zc0 (P:=c.P) (w:=w) (T:=T) (T':=T') (ty:=o.type) (u:=Act.eval ⟨tm,[]⟩ y) hT hinf hv0 (by
   rcases ZgC (P:=c.P) 0 hyv with ⟨h,_⟩ | ⟨a,sLen,sCap,cs,h,_⟩
   ·exact ⟨_,_,_,h⟩
   ·exact ⟨_,_,_,h⟩)
  refine Zk (v:=goInt 0) (w':=w) ?_ (hn _ w ?_)
  ·simp only [execOp,ho,resolve,hcl,hargs',hts',List.map_toArray,List.map_cons,List.map_nil,Sem.run_bind,Sem.run_pure,Result.andThen_ok,invoke,builtin,hrun]
  ·rw [hsame _ (by simp [ZmG])]
   exact Zy hsim rfl (k:=0) trivial
 have hf1:∀ x∈xs,x.length=1:=fun x hx=>by rw [g9 x hx,hs]
 rw [hs,Nat.mul_one] at g8
 rcases ZgC (P:=c.P) xs.length hyv with ⟨hv,hnil⟩ | ⟨a,sLen,sCap,cs,hv,h1,h2,h3,h4,h5,h6⟩
 ·subst hnil
  have hrun:=run_copy_nil c.P w T T' o.type e ⟨b,0,none⟩ xs.length cap' hT (by rw [hs1];rfl)
  refine Zk (v:=goInt 0) (w':=w) ?_ (hn _ w ?_)
  ·simp only [execOp,ho,resolve,hcl,hargs',hts',List.map_toArray,List.map_cons,List.map_nil,Sem.run_bind,Sem.run_pure,Result.andThen_ok,invoke,builtin,g2,hv,hrun]
  ·rw [hsame _ (by simp [ZmG])]
   exact Zy hsim rfl (k:=0) trivial
 ·have h1':cs.length=min sLen xs.length:=h1
  have hrun:=run_copy_row c.P w T T' o.type e b 0 xs.length cap' a sLen sCap arr e cs hT hs1 g3 h1 h4 (by rw [h1',g8];omega) h5
  rw [Nat.zero_add] at hrun
  have hcl':cs.length≤xs.length:=by rw [h1];exact Nat.min_le_right _ _
  have e1:ZmG xs ys=ys.take xs.length++xs.drop cs.length:=by
   unfold ZmG
   rw [h1']
   congr 1
   by_cases hle:ys.length≤xs.length
   ·rw [h2,Nat.min_eq_left hle]
   ·rw [h2,Nat.min_eq_right (by omega),List.drop_of_length_le (by omega),List.drop_of_length_le (by omega)]
  have hyl:(ys.take xs.length).length=cs.length:=by rw [List.length_take,h1',h2];exact Nat.min_comm _ _
  have hm:∀ x∈ZmG xs ys,x.length=1∧∀ c∈x,c.isCell=true:=by
   rw [e1]
   intro x hx
   rcases List.mem_append.1 hx with hx | hx
   ·exact h3 x (List.mem_of_mem_take hx)
   ·exact ⟨hf1 x (List.mem_of_mem_drop hx),g10 x (List.mem_of_mem_drop hx)⟩
  have hyf:(ys.take xs.length).flatten.length=cs.length:=by rw [Zl (ys.take xs.length) 1 fun y hy=>(h3 y (List.mem_of_mem_take hy)).1,hyl,Nat.mul_one]
  obtain ⟨X',hset⟩:=hsim.setPlace (xs':=ZmG xs ys) (arr':=(arr.toList.take 0++cs++arr.toList.drop cs.length).toArray) hd' (by rw [hsd];exact hng) g1 g3 (by simp;omega) (by rw [e1,List.length_append,hyl,List.length_drop];omega)
   (fun x hx=>by rw [hs];exact (hm x hx).1) (fun x hx=>(hm x hx).2) (fun j z u hz hu=>by
    rw [e1,List.flatten_append,VB xs cs.length hf1,Nat.mul_one] at hz
    refine ZgW (R:=Rep w lim) (off:=0) (zs:=xs.flatten) (us:=arr.toList) (fun j z u hz hu=>g11 j z u hz (by simpa using hu)) h6 hyf (Nat.zero_le _) (Nat.zero_le _) j z u ?_ ?_
    ·rw [Nat.zero_add,hyf];simpa using hz
    ·rw [Nat.zero_add];simpa using hu)
  rw [hsd] at hset
  refine Zk (v:=goInt cs.length) (w':=w.setRow b (arr.toList.take 0++cs++arr.toList.drop cs.length).toArray) ?_ (hn _ _ (Zy hset rfl (k:=0) trivial))
  simp only [execOp,ho,resolve,hcl,hargs',hts',List.map_toArray,List.map_cons,List.map_nil,Sem.run_bind,Sem.run_pure,Result.andThen_ok,invoke,builtin,g2,hv,hrun]
theorem Zgi {T':Odr} {P:Program} {o:Oper} {σ:Nat→AV} {T e:TypeId} {x y:Operand} {d:Nat} {xs:List (List AV)} {k:IntKind} {h:Nat} {us:List (Nat×AV)} (ho:o.op = .slice T x none (some y) none) (hT:P.underlying T=some (.slice e)) (hs0:P.cellsOf e≠0)
  (hx:Zm P σ x = .mref d 0) (hd:σ d = .own true e xs) (hy:Zm P σ y = .val (.int k h)) (hh:h≤xs.length) (hus:J9 T' σ d us) (hnm:Zo P e=false) :
  KQ T' P o σ (.own true e (xs.take h)) ((d,Wn P true e xs)::us) [d]:=by
 intro c hc σ' tm w lim X hid hag hTx hsim next Q hn
 have hgx:Zm P σ' x=Zm P σ x:=ZF fun t ht=>hid t (by simp [Zu (o:=o) (x:=x) (by rw [ho];simp [Op.operands]) ht])
 have hgy:Zm P σ' y=Zm P σ y:=ZF fun t ht=>hid t (by simp [Zu (o:=o) (x:=y) (by rw [ho];simp [Op.operands]) ht])
 have hd':σ' d = .own true e xs:=by rw [hag d (by simp),hd]
 have hv:=YF hc hsim hx hgx
 have hyv:=Z6 hc hsim hy hgy
 rw [← hc] at hv
 obtain ⟨X1,k1,k2,k3⟩:=hsim.freeAll (us:=us) hd' (.inr (hus.all hTx))
 rw [hc] at k1
 obtain ⟨inf,hinf⟩:=ZC hs0
 have hat:Zr (σ' d) 0=some (e,xs):=by rw [hd'];rfl
 rcases WD hsim hat hv (by rw [hc];exact hnm) with ⟨rfl,hform⟩ | ⟨b,arr,cap,cap',g1,g2,g3,g4,g5,g6,g7,g8,g9,g10⟩
 ·have hh0:h=0:=by simpa using hh
  subst hh0
  rcases hform with hf | ⟨a,hf⟩
  ·refine Zk (v:=.slice none 0 0) (w':=w) ?_ (hn _ w (Z4 (ob:=none) k1 (.inl ⟨[],World.ownsRow_nil _ 0 e _,rfl,by simp,by simp,by simp,by simp⟩) (by simp) fun _=>.none rfl))
   simp [execOp,ho,hf,hyv,Instr.sliceAt,Instr.slice,Instr.sliceBounds,Instr.sliceBound,asIntOf,run_underlying hT,Zn hinf]
  ·refine Zk (v:=.slice (some a) 0 0) (w':=w) ?_ (hn _ w (Z4 (ob:=none) k1 (.inr (.inl ⟨rfl,rfl,a,rfl⟩)) (by simp) fun _=>.none rfl))
   simp [execOp,ho,hf,hyv,Instr.sliceAt,Instr.slice,Instr.sliceBounds,Instr.sliceBound,asIntOf,run_underlying hT,Zn hinf]
 ·have hsz:P.cellsOf e=inf.size:=Zx hinf
  have hle:xs.length≤cap':=by
   obtain ⟨e2,xs2,m1,m2⟩:=hv
   rw [hat] at m1
   simp only [Option.some.injEq,Prod.mk.injEq] at m1
   obtain ⟨rfl,rfl⟩:=m1
   rcases m2 with ⟨m2,_⟩ | ⟨b',arr',cap2,m2,m3,m4,m5⟩ | ⟨m2,_⟩
   rotate_right
   ·rw [hc,hnm] at m2;cases m2
   ·rw [g1] at m2;cases m2
   ·rw [g1] at m2
    have hb:b=b':=Option.some.inj m2
    subst hb
    rw [g3] at m3
    simp only [Option.some.injEq,Obj.cells.injEq,and_true] at m3
    subst m3
    rw [g2] at m5
    simp only [Value.slice.injEq] at m5
    have hcap:cap2=cap:=Nat.eq_of_mul_eq_mul_right (by rw [hc];omega) (m4.symm.trans g7)
    omega
  have hce:cap'=cap:=by
   obtain ⟨e2,xs2,m1,m2⟩:=hv
   rw [hat] at m1
   simp only [Option.some.injEq,Prod.mk.injEq] at m1
   obtain ⟨rfl,rfl⟩:=m1
   rcases m2 with ⟨m2,_⟩ | ⟨b',arr',cap2,m2,m3,m4,m5⟩ | ⟨m2,_⟩
   rotate_right
   ·rw [hc,hnm] at m2;cases m2
   ·rw [g1] at m2;cases m2
   ·rw [g1] at m2
    have hb:b=b':=Option.some.inj m2
    subst hb
    rw [g3] at m3
    simp only [Option.some.injEq,Obj.cells.injEq,and_true] at m3
    subst m3
    rw [g2] at m5
    simp only [Value.slice.injEq] at m5
    have hcap:cap2=cap:=Nat.eq_of_mul_eq_mul_right (by rw [hc];omega) (m4.symm.trans g7)
    omega
  subst hce
  have hlt:(xs.take h).length=h:=by rw [List.length_take];omega
  have key:Z9 c.P w lim true e (xs.take h) (.slice (some ⟨b,0,none⟩) (xs.take h).length cap') (some b):=
   WS g3 g4 (by omega) g6 g7 (fun x hx=>g8 x (List.mem_of_mem_take hx)) (fun x hx=>g9 x (List.mem_of_mem_take hx)) fun j z u hz hu=>g10 j z u (by
    rw [JM xs h g8,List.getElem?_take] at hz
    split at hz
    ·exact hz
    ·cases hz) hu
  rw [hlt] at key
  refine Zk (v:=.slice (some ⟨b,0,none⟩) h cap') (w':=w) ?_ (hn _ w (Z4 k1 key (fun b' hb'=>?_) fun _=>.noMap (by rw [hc];exact hnm)))
  ·have b1:h≤cap':=by omega
   simp [execOp,ho,g2,hyv,Instr.sliceAt,Instr.slice,Instr.sliceBounds,Instr.sliceBound,asIntOf,run_underlying hT,Zn hinf,b1,JH]
  ·exact k3 b' (g1.trans hb')
theorem ZjE {c:Ctx} {σ:Nat→AV} {tm:Array Value} {w:World} {lim:Nat→Nat} {X:Nat→Nat→Option Nat} (h:Sim c σ tm w lim X) {d q k:Nat} {e:TypeId} {xs:List (List AV)} {v:Value}
  (hd:Zr (σ d) q=some (e,xs)) (hv:ZK c.P w lim X σ k (.mref d q) v) (hnm:Zo c.P e=false):RdS w lim (c.P.cellsOf e) xs v:=by
 rcases WD h hd hv hnm with ⟨h1,h2 | ⟨a,h2⟩⟩ | ⟨b,arr,cap,cap',g1,g2,g3,g4,g5,g6,g7,g8,g9,g10⟩
 ·exact .inl ⟨h1,_,_,h2⟩
 ·exact .inl ⟨h1,_,_,h2⟩
 ·have hal:arr.toList.length=cap*c.P.cellsOf e:=by simpa using g7
  have hle:xs.length*c.P.cellsOf e≤arr.toList.length:=by rw [hal];exact Nat.mul_le_mul_right _ g5
  refine .inr ⟨b,0,cap',arr.toList.take (xs.length*c.P.cellsOf e),g2,g8,g9,by rw [List.length_take];omega,fun j u hj=>?_,fun j z u hz hu=>?_⟩
  ·rw [List.getElem?_take] at hj
   split at hj
   ·rw [Nat.zero_add,ZS g3]
    simpa using hj
   ·cases hj
  ·rw [List.getElem?_take] at hu
   split at hu
   ·exact g10 j z u hz (by simpa using hu)
   ·cases hu
theorem Za4 {P:Program} {o:Oper} {σ:Nat→AV} {T e:TypeId} {x y z:Operand} {d q s:Nat} {k k':IntKind} (ho:o.op = .slice T x none (some y) (some z))
  (hT:P.underlying T=some (.slice e)) (hs0:P.cellsOf e≠0) (hx:Zm P σ x = .mref d q) (hy:Zm P σ y = .val (.int k 0)) (hz:Zm P σ z = .val (.int k' 0)) {e':TypeId} {xs':List (List AV)} (hd:Zr (σ d) q=some (e',xs')) (hnm:Zo P e'=false):JK P o σ (.slice true s []) [] [d]:=by
 refine Zv [d] rfl fun c hc σ' tm w lim X hg hfp hsim=>?_
 rw [ho] at hg
 have hv:=YF hc hsim hx (hg x (by simp [Op.operands]))
 have hy':=Z6 hc hsim hy (hg y (by simp [Op.operands]))
 have hz':=Z6 hc hsim hz (hg z (by simp [Op.operands]))
 obtain ⟨inf,hinf⟩:=ZC hs0
 generalize hu:Act.eval ⟨tm,[]⟩ x=u at hv
 obtain ⟨e2,xs,he2,hv⟩:=hv
 rw [hfp d (by simp),hd] at he2
 simp only [Option.some.injEq,Prod.mk.injEq] at he2
 obtain ⟨rfl,rfl⟩:=he2
 rcases hv with ⟨_,_,rfl | ⟨a,rfl⟩⟩ | ⟨b,arr,cap,_,_,_,rfl⟩ | ⟨h0,_⟩
 ·refine ⟨.slice none 0 0,?_,.sliceN⟩
  simp [execOp,ho,hu,hy',hz',Instr.sliceAt,Instr.slice,Instr.sliceBounds,Instr.sliceBound,asIntOf,run_underlying hT,Zn hinf]
 ·refine ⟨.slice (some a) 0 0,?_,.sliceE (fun _=>rfl)⟩
  simp [execOp,ho,hu,hy',hz',Instr.sliceAt,Instr.slice,Instr.sliceBounds,Instr.sliceBound,asIntOf,run_underlying hT,Zn hinf]
 ·refine ⟨.slice (some ⟨b,0,none⟩) 0 0,?_,.sliceE (fun _=>rfl)⟩
  simp [execOp,ho,hu,hy',hz',Instr.sliceAt,Instr.slice,Instr.sliceBounds,Instr.sliceBound,asIntOf,run_underlying hT,Zn hinf]
 ·rw [hnm] at h0;cases h0
theorem KW {P:Program} {o:Oper} {σ:Nat→AV} (ex:Bool) {cl:Call} {T e:TypeId} {i:TypeInfo} {z:Value} {x y:Operand} {d q:Nat} {ys:List (List AV)} {s:Nat} (ho:o.op = .call cl) (hcl:cl.callee = .builtin .append)
  (hargs:cl.args.toList = [x,y]) (hts:cl.argTypes.toList = [T,T]) (hT:P.underlying T=some (.slice e)) (hi:P.info? e=some i) (hz:i.zero=some z) (hzs:z.cells.size=i.size)
  (hx:Zm P σ x = .slice true s []) (hy:Zm P σ y = .mref d q) (hd:Zr (σ d) q=some (e,ys)) (hroom:(([] : List (List AV)).length+ys.length)*(i.bytes+1)≤Jc) (hnm:Zo P e=false) :
  JK P o σ (.own ex e ys) [] [d]:=by
 have hargs':cl.args = #[x,y]:=by apply Array.toList_inj.1;rw [hargs]
 have hts':cl.argTypes = #[T,T]:=by apply Array.toList_inj.1;rw [hts]
 intro c hc σ' tm w lim X hid hag hsim next Q hn
 have hgx:Zm P σ' x=Zm P σ x:=ZF fun t ht=>hid t (by simp [Zu (o:=o) (x:=x) (by rw [ho];simp [Op.operands,Call.operands,hargs',hcl]) ht])
 have hgy:Zm P σ' y=Zm P σ y:=ZF fun t ht=>hid t (by simp [Zu (o:=o) (x:=y) (by rw [ho];simp [Op.operands,Call.operands,hargs',hcl]) ht])
 have hxv:Z9 P w lim ex e [] (Act.eval ⟨tm,[]⟩ x) none:=ZaJ (s:=s) (YF hc hsim hx hgx)
 have hd':Zr (σ' d) q=some (e,ys):=by rw [hag d (by simp),hd]
 have hyv:RdS w lim (P.cellsOf e) ys (Act.eval ⟨tm,[]⟩ y):=by
  have hv:=YF hc hsim hy hgy
  rw [← hc] at hv ⊢
  exact ZjE hsim hd' hv (by rw [hc];exact hnm)
 obtain ⟨v',w',lim',ob',r1,r2,r3,r4⟩:=Kh (ty:=o.type) hT hi hz hzs hxv hyv hroom hnm
 have hw:=hsim.world r3 fun b hb=>by cases hb
 refine Zk (v:=v') (w':=w') ?_ (hn _ w' ?_)
 ·simp only [execOp,ho,resolve,hcl,hargs',hts',List.map_toArray,List.map_cons,List.map_nil,Sem.run_bind,Sem.run_pure,Result.andThen_ok,invoke,builtin,r1]
 ·rw [← hc,List.nil_append] at r2
  refine Z4 hw r2 (fun b hb=>?_) fun _=>.noMap (by rw [hc];exact hnm)
  rcases r4 with r4 | r4
  ·rw [r4] at hb;cases hb
  ·rw [r4] at hb
   simp only [Option.some.injEq] at hb
   subst hb
   exact ⟨.inr hsim.frm.size,fun i j=>Ka hsim i j⟩
theorem Vs {T':Odr} {P:Program} {o:Oper} {σ:Nat→AV} {cl:Call} {T e:TypeId} {i:TypeInfo} {z:Value} {t:Nat} {y:Operand} {x:Bool} {xs ys:List (List AV)} {us:List (Nat×AV)} {d q:Nat} (ho:o.op = .call cl) (hcl:cl.callee = .builtin .append)
  (hargs:cl.args.toList = [.tmp t,y]) (hts:cl.argTypes.toList = [T,T]) (hT:P.underlying T=some (.slice e)) (hi:P.info? e=some i) (hz:i.zero=some z) (hzs:z.cells.size=i.size)
  (ht:σ t = .own x e xs) (hy:Zm P σ y = .mref d q) (hd:Zr (σ d) q=some (e,ys)) (hroom:(xs.length+ys.length)*(i.bytes+1)≤Jc) (hus:(x=false∧us = [])∨J9 T' σ t us) (hnm:Zo P e=false) :
  KQ T' P o σ (.own x e (xs++ys)) ((t,Wn P x e xs)::us) [d]:=by
 have hargs':cl.args = #[.tmp t,y]:=by apply Array.toList_inj.1;rw [hargs]
 have hts':cl.argTypes = #[T,T]:=by apply Array.toList_inj.1;rw [hts]
 intro c hc σ' tm w lim X hid hag hTx hsim next Q hn
 have hgy:Zm P σ' y=Zm P σ y:=ZF fun t ht=>hid t (by simp [Zu (o:=o) (x:=y) (by rw [ho];simp [Op.operands,Call.operands,hargs',hcl]) ht])
 have ht':σ' t = .own x e xs:=by rw [hag t (by simp),ht]
 obtain ⟨X1,h1,h2,h3⟩:=hsim.freeAll (us:=us) ht' (hus.imp id fun h=>h.all hTx)
 have hd':Zr (σ' d) q=some (e,ys):=by rw [hag d (by simp),hd]
 have hyv:RdS w lim (P.cellsOf e) ys (Act.eval ⟨tm,[]⟩ y):=by
  have hv:=YF hc hsim hy hgy
  rw [← hc] at hv ⊢
  exact ZjE hsim hd' hv (by rw [hc];exact hnm)
 rw [hc] at h2
 obtain ⟨v',w',lim',ob',r1,r2,r3,r4⟩:=Kh (ty:=o.type) hT hi hz hzs h2 hyv hroom hnm
 have hw:=h1.world r3 h3
 refine Zk (v:=v') (w':=w') ?_ (hn _ w' ?_)
 ·have hev:Act.eval ⟨tm,[]⟩ (.tmp t)=tm.getD t undef:=rfl
  simp only [execOp,ho,resolve,hcl,hargs',hts',List.map_toArray,List.map_cons,List.map_nil,Sem.run_bind,Sem.run_pure,Result.andThen_ok,invoke,builtin,hev,r1]
 ·rw [hc] at hw
  rw [← hc] at r2
  refine Z4 hw r2 (fun b hb=>?_) fun _=>.noMap (by rw [hc];exact hnm)
  rcases r4 with r4 | r4
  ·rw [r4] at hb;exact h3 b hb
  ·rw [r4] at hb
   simp only [Option.some.injEq] at hb
   subst hb
   exact ⟨.inr hsim.frm.size,fun i j=>Ka h1 i j⟩
theorem VF {P:Program} {w:World} {T ty e:TypeId} {a:Option Addr} {c:Nat} (hT:P.underlying T=some (.slice e)):(Builtin.clear_ #[T] ty #[.slice a 0 c]).run P w = .ok (.tuple #[]) w:=by
 cases a<;>simp [Builtin.clear_,run_underlying hT]
theorem Wr {P:Program} {w:World} {T ty e t:TypeId} {inf:TypeInfo} {z:Value} {b o n c:Nat} {arr:Array Value} (hT:P.underlying T=some (.slice e)) (hi:P.info? e=some inf) (hz:inf.zero=some z) (hg:w.heap[b]? = some (.cells arr t (0,0)))
  (hfit:o+(n+1)*z.cells.size≤arr.size) (h1:∀ v∈z.cells.toList,v.oneCell'=true) :
  (Builtin.clear_ #[T] ty #[.slice (some ⟨b,o,none⟩) (n+1) c]).run P w =
   .ok (.tuple #[]) (w.setRow b (arr.toList.take o++(List.replicate (n+1) z.cells.toList).flatten++arr.toList.drop (o+(n+1)*z.cells.size)).toArray):=by
 have hrep:=replicate_zero z.cells.toList (n+1)
 rw [Array.toArray_toList] at hrep
 have hzc:(Builtin.zeroCells z.cells (n+1)).toList=(List.replicate (n+1) z.cells.toList).flatten:=by
  have:Builtin.zeroCells z.cells (n+1)=madeCells z.cells ((n+1)*z.cells.toList.length):=by simp [Builtin.zeroCells,madeCells]
  rw [this]
  have h2:madeCells z.cells ((n+1)*z.cells.toList.length)=((List.replicate (n+1) z.cells.toList).flatten).toArray:=hrep
  rw [h2]
 have hlen:((List.replicate (n+1) z.cells.toList).flatten).length=(n+1)*z.cells.size:=by simp
 have hst:=run_storeCells_at P b o t ((List.replicate (n+1) z.cells.toList).flatten) 0 arr w hg (by rw [hlen];exact hfit) (fun v hv=>by
  obtain ⟨l,hl,hv⟩:=List.mem_flatten.1 hv
  rw [(List.mem_replicate.1 hl).2] at hv
  exact h1 v hv)
 rw [Nat.add_zero,hlen] at hst
 simp [Builtin.clear_,run_underlying hT,zeroValue,typeInfo,run_program,hi,hz,hzc,hst]
theorem Sim.clear {c:Ctx} {σ:Nat→AV} {tm:Array Value} {w:World} {lim:Nat→Nat} {X:Nat→Nat→Option Nat} (h:Sim c σ tm w lim X) {x n:Nat} {T e:TypeId} {inf:TypeInfo} {z:Value} {zc:List AV} {xs:List (List AV)} (hx:σ x = .own true e xs)
  (hT:c.P.underlying T=some (.slice e)) (hi:c.P.info? e=some inf) (hz:inf.zero=some z) (hzs:z.cells.size=inf.size) (h0:0 < inf.size) (hzr:∀ (w:World) (lim:Nat→Nat),J7 w lim zc z.cells.toList) (h1z:∀ v∈z.cells.toList,v.oneCell'=true) (hn:n≤xs.length) (hnm:Zo c.P e=false) :
  ∃ v2 w' X',(Instr.sliceAt T (tm.getD x undef) (some (.int .i64 n)) none none).run c.P w = .ok v2 w∧(∀ ty,(Builtin.clear_ #[T] ty #[v2]).run c.P w = .ok (.tuple #[]) w')∧
   Sim c (upd σ x (.own true e (xs.take n++List.replicate (xs.length-n) zc))) tm w' lim X'∧xs.length≤maxLen:=by
 have hk:c.P.cellsOf e=inf.size:=Zx hi
 have hrel:=h.rel x
 rw [hx] at hrel
 have hrel:Z9 c.P w lim true e xs (tm.getD x undef) (X x 0):=hrel
 have same:∀ ys,ys=xs→upd σ x (.own true e ys)=σ:=by
  rintro ys rfl
  funext i
  by_cases hi:i=x
  ·subst hi;rw [ZY,hx]
  ·rw [Zi σ _ hi]
 have hsz:∀ w,(sizeOf e).run c.P w = .ok inf.size w:=fun w=>by rw [Zn hi,hk]
 cases hX:X x 0 with
 | none =>
  rw [hX] at hrel
  have hform:∃ base,tm.getD x undef = .slice base 0 0∧xs = []:=by
   rcases hrel.noMap hnm with ⟨us,hr,hob,_⟩ | ⟨hxs,_,a,hv⟩
   ·rcases hr.2 with ⟨hv,hl⟩ | ⟨g,cap,cur,hv,_⟩
    ·exact ⟨none,hv,List.eq_nil_of_length_eq_zero hl⟩
    ·rw [hv] at hob;cases hob
   ·exact ⟨_,hv,hxs⟩
  obtain ⟨base,hv,rfl⟩:=hform
  have hn0:n=0:=by simpa using hn
  subst hn0
  refine ⟨.slice base 0 0,w,X,?_,fun ty=>VF hT,by rw [same _ (by simp)];exact h,by simp⟩
  rw [hv]
  cases base<;>simp [Instr.sliceAt,Instr.slice,Instr.sliceBounds,Instr.sliceBound,asIntOf,run_underlying hT,hsz]
 | some b =>
  rw [hX] at hrel
  obtain ⟨arr,cap,hv,hg,hl,hle,hcm,hcs,hxl,hxc,hxr⟩:=Vb hrel (.inl hnm)
  rw [hk] at hcs hxl
  have hnc:n≤cap:=by omega
  have hzl:z.cells.toList.length=inf.size:=by rw [← hzs];simp
  have hslice:(Instr.sliceAt T (tm.getD x undef) (some (.int .i64 n)) none none).run c.P w = .ok (.slice (if cap=n then some ⟨b,0,none⟩ else some ⟨b,n*inf.size,none⟩) (xs.length-n) (cap-n)) w:=by
   rw [hv]
   have q1:n≤xs.length:=hn
   simp [Instr.sliceAt,Instr.slice,Instr.sliceBounds,Instr.sliceBound,asIntOf,run_underlying hT,hsz,q1,hnc,hle,JH]
  by_cases hend:n=xs.length
  ·refine ⟨_,w,X,hslice,fun ty=>?_,by rw [same _ (by rw [hend];simp)];exact h,by omega⟩
   rw [hend,Nat.sub_self]
   exact VF hT
  ·have hcn:¬ cap=n:=by omega
   obtain ⟨p,hp⟩:∃ p,xs.length-n=p+1:=⟨xs.length-n-1,by omega⟩
   have m1:n*inf.size+(p+1)*inf.size≤cap*inf.size:=by
    rw [← Nat.add_mul]
    exact Nat.mul_le_mul_right _ (by omega)
   rw [if_neg hcn,hp] at hslice
   have hclr:=fun ty=>Wr (P:=c.P) (w:=w) (ty:=ty) (o:=n*inf.size) (n:=p) (c:=cap-n) hT hi hz hg (by rw [hzs,hcs];exact m1) h1z
   have hal:arr.toList.length=cap*inf.size:=by simpa using hcs
   have hfl:((List.replicate (p+1) z.cells.toList).flatten).length=(p+1)*inf.size:=by simp [hzl,← hzs]
   obtain ⟨arr',harr⟩:∃ arr',arr'=(arr.toList.take (n*inf.size)++(List.replicate (p+1) z.cells.toList).flatten++arr.toList.drop (n*inf.size+(p+1)*z.cells.size)).toArray:=⟨_,rfl⟩
   have hrl:=Yw (hzr w lim) (p+1)
   have hxf:xs.flatten.length=xs.length*inf.size:=Zl xs _ hxl
   have hnx:n*inf.size≤xs.length*inf.size:=Nat.mul_le_mul_right _ hn
   obtain ⟨X',hs⟩:=h.setPlace (d:=x) (k:=0) (b:=b) (e:=e) (xs:=xs) (xs':=xs.take n++List.replicate (p+1) zc) (arr:=arr) (arr':=arr') (by rw [hx];rfl) (by rw [hx];rfl) hX hg
    (by
     rw [harr,List.size_toArray,List.length_append,List.length_append,hfl,List.length_take,List.length_drop,hal,hzs,hcs]
     omega)
    (by rw [List.length_append,List.length_take,List.length_replicate];omega)
    (fun y hy=>by
     rw [hk]
     rcases List.mem_append.1 hy with hy | hy
     ·exact hxl y (List.mem_of_mem_take hy)
     ·rw [(List.mem_replicate.1 hy).2,(hzr w lim).1,hzl])
    (fun y hy=>by
     rcases List.mem_append.1 hy with hy | hy
     ·exact hxc y (List.mem_of_mem_take hy)
     ·rw [(List.mem_replicate.1 hy).2]
      exact (hzr w lim).2.1)
    (fun j y u hy hu=>by
     rw [harr,List.getElem?_toArray,List.append_assoc] at hu
     rw [List.flatten_append,JM xs n hxl] at hy
     have hln:(xs.flatten.take (n*inf.size)).length=n*inf.size:=by rw [List.length_take,hxf];omega
     have hla:(arr.toList.take (n*inf.size)).length=n*inf.size:=by rw [List.length_take,hal];omega
     by_cases hj:j < n*inf.size
     ·rw [List.getElem?_append_left (by omega),List.getElem?_take,if_pos hj] at hy
      rw [List.getElem?_append_left (by omega),List.getElem?_take,if_pos hj] at hu
      exact hxr j y u hy (by simpa using hu)
     ·rw [List.getElem?_append_right (by omega),hln] at hy
      rw [List.getElem?_append_right (by omega),hla] at hu
      have hjl:=(List.getElem?_eq_some_iff.1 hy).1
      have hfz:((List.replicate (p+1) zc).flatten).length=(p+1)*inf.size:=by simp [(hzr w lim).1,hzl,← hzs]
      rw [hfz] at hjl
      rw [List.getElem?_append_left (by rw [hfl];exact hjl)] at hu
      exact hrl.2.2 _ y u hy hu)
   refine ⟨_,_,X',hslice,hclr,?_,by omega⟩
   rw [← harr,hp]
   rw [hx] at hs
   exact hs
end Go.AM
end
