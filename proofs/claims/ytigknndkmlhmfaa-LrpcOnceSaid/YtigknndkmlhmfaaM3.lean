/- AmInp, AmMap, AmDeep, AmTake, AmMapV, AmWp: texts of the proof, put together. -/
import Derived.Test.YtigknndkmlhmfaaM2
import Derived.Laws.MakeOwn
import Derived.Laws.CopyRow
import Derived.Below

section
namespace Go.AM
def Zn (y:AV) (k:Nat) (b:Bool) (e:TypeId) (xs:List (List AV)):AV:=
 match y,k with
 | .own _ _ _, 0 => .own b e xs
 | .box cs, k + 1 => .box (cs.set k (.own b e xs))
 | y, _ => y
theorem YG {w:World} {b:Nat} {cur cs:Array Value} {t:TypeId} (hg:w.heap[b]? = some (.cells cur t (0,0))) (hs:cs.size=cur.size) (b':Nat):V8 w (w.setRow b cs) b':=by
 by_cases h:b'=b
 ·subst h
  refine ⟨fun arr e h1=>?_,fun es clock h1=>?_⟩
  ·rw [hg] at h1
   simp only [Option.some.injEq,Obj.cells.injEq,and_true] at h1
   obtain ⟨rfl,rfl⟩:=h1
   exact ⟨cs,setRow_heap w b' cur cs t _ hg,hs⟩
  ·rw [hg] at h1;cases h1
 ·exact .of (setRow_other w b b' cs h)
theorem Sim.setPlace {c:Ctx} {σ:Nat→AV} {tm:Array Value} {w:World} {lim:Nat→Nat} {X:Nat→Nat→Option Nat} (h:Sim c σ tm w lim X) {d k b:Nat} {e:TypeId} {xs xs':List (List AV)} {arr arr':Array Value}
  (hp:Zo (σ d) k=some (e,xs)) (hng:(σ d).isG=false) (hX:X d k=some b) (hheap:w.heap[b]? = some (.cells arr e (0,0))) (hsz:arr'.size=arr.size) (hl:xs'.length=xs.length) (h1:∀ x∈xs',x.length=c.P.cellsOf e) (h2:∀ x∈xs',∀ z∈x,z.isCell=true)
  (hr:∀ (j:Nat) (z:AV) (u:Value),xs'.flatten[j]? = some z→arr'[j]? = some u→Rep w lim z u) :
  ∃ X',Sim c (upd σ d (Zn (σ d) k true e xs')) tm (w.setRow b arr') lim X':=by
 have hnd:Zg c.P e=false:=by
  cases hd:Zg c.P e with
  | false => rfl
  | true =>
   obtain ⟨arr2,h3⟩:=h.deepB (Z7 hp) hd b hX
   rw [hheap] at h3
   simp only [Option.some.injEq,Obj.cells.injEq,and_true] at h3
   have h8:2097152≤e:=by simp only [Zg,Bool.and_eq_true,decide_eq_true_eq] at hd;exact hd.1
   have h9:=h3.2
   rw [bT,if_pos h8] at h9
   exact absurd h9.symm (Nat.ne_of_lt (Nat.sub_lt (Nat.lt_of_lt_of_le (by decide) h8) (by decide)))
 have hnew:∀ v,ZQ c.P w lim true e xs v (some b)→ZQ c.P (w.setRow b arr') lim true e xs' v (some b):=by
  intro v ho
  obtain ⟨arr0,cap,g1,g2,g3,g4,g5,g6,g7,g8,g9⟩:=Vk ho (.inr ⟨hnd,_,_,_,hheap⟩)
  rw [hheap] at g2
  simp only [Option.some.injEq,Obj.cells.injEq,and_true] at g2
  subst g2
  have hstep:=Jc (cs:=arr') hheap g3
  rw [g1,← hl]
  exact KK (setRow_heap w b arr arr' e _ hheap) g3 (by omega) g5 (by rw [hsz];exact g6) h1 h2 fun j z u hz hu=>(hr j z u hz hu).mono hstep.ext
 have hlim:lim b=0:=by
  obtain ⟨v,ho⟩:=JI h hp
  rw [hX] at ho
  obtain ⟨_,_,_,_,g3,_⟩:=Vk ho (.inr ⟨hnd,_,_,_,hheap⟩)
  exact g3
 have hstep:=Jc (cs:=arr') hheap hlim
 have hrel:=h.rel d
 rcases Zz hp with ⟨ho,rfl⟩ | ⟨cs,q,ho,rfl,hq⟩ | ⟨cs,q,ho,rfl,hq⟩
 case inr.inr=>rw [ho] at hng;cases hng
 ·have hdn:d < c.nt:=Yl h (by rw [ho];exact fun h=>by cases h) (by rw [ho];rfl)
  rw [ho] at hrel
  refine ⟨_,h.putRow (hmp:=fun e1 xs1 _=>.cells fun b' hb'=>by rw [hX] at hb';cases hb';exact ⟨_,_,_,setRow_heap w b arr arr' e _ hheap⟩) (hns:=fun k e1 xs1 b' m1 m2 m3=>by
   rw [ho] at m1
   cases k with
   | zero =>
    simp only [Zn,ZX,Option.some.injEq,Prod.mk.injEq] at m1
    rw [← m1.1,hnd] at m2
    cases m2
   | succ k => simp [Zn, ZX] at m1) (S := fun b' => b' = b) (X d) hstep (fun b' hb' => ⟨0, by rw [hb']; exact hX⟩) hdn rfl (fun i _ => rfl) (.inl fun cs hcs => by rw [ho] at hcs; cases hcs) (fun i q hi hr => ?_) ?_ (fun k b' hk => ?_) (fun k k' b' hk hk' => (h.dist d k d k' b' hk hk').2) (by rw [ho]; rfl)⟩
  ·refine ⟨fun e' ys hy=>?_,rfl,fun b' _=>YG hheap hsz b'⟩
   rw [ho] at hy ⊢
   cases q with
   | succ q => simp [Zo] at hy
   | zero =>
    simp only [Zo,Option.some.injEq,Prod.mk.injEq] at hy
    obtain ⟨rfl,rfl⟩:=hy
    exact ⟨xs',rfl,hl⟩
  ·rw [ho]
   show ZQ c.P _ lim true e xs' _ (KH X d (X d) d 0)
   rw [Zp,hX]
   refine hnew _ ?_
   rw [← hX]
   exact hrel
  ·exact ⟨by have:=(h.ours d k b' hk).1;simpa using this,(h.ours d k b' hk).2,fun i j hi hij=>hi (h.dist i j d k b' hij hk).1⟩
 ·have hdn:d < c.nt:=Yl h (by rw [ho];exact fun h=>by cases h) (by rw [ho];rfl)
  rw [ho] at hrel
  obtain ⟨b0,arr0,t0,g1,g2,g3,g4,g5,g6,g7⟩:=(show ZI c.P w lim (X d) cs _ from hrel)
  have hne:b0≠b:=fun e'=>by
   have:=(h.dist d (q+1) d 0 b hX (by rw [← e'];exact g1)).2
   omega
  refine ⟨_,h.putRow (hmp:=fun e1 xs1 he=>by rw [ho] at he;simp [Zn] at he) (hns:=fun k e1 xs1 b' m1 m2 m3=>by
   rw [ho] at m1
   rcases Yp m1 with ⟨_,m4⟩ | ⟨m4,m5⟩
   ·injection m4 with _ m4
    rw [← m4,hnd] at m2
    cases m2
   ·have hng:=h.ntN
    refine (h.nst d k e1 xs1 b' (by rw [ho];exact m5) m2 m3).mono hstep.ext (setRow_other w b b' arr' fun e'=>?_) fun j b2 hb2=>hstep.blk b2 (h.ours _ j b2 hb2).1 fun e'=>?_
    ·exact m4 (h.dist d k d (q+1) b' m3 (by rw [e'];exact hX)).2
    ·have:=(h.dist (ngN+b') j d (q+1) b2 hb2 (by rw [e'];exact hX)).1
     omega) (S:=fun b'=>b'=b) (X d) hstep (fun b' hb'=>⟨q+1,by rw [hb'];exact hX⟩) hdn rfl (fun i _=>rfl) (.inr ⟨⟨_,by rw [ho];rfl⟩,rfl,rfl⟩) (fun i q' hi hr=>?_) ?_ (fun k b' hk=>?_) (fun k k' b' hk hk'=>(h.dist d k d k' b' hk hk').2) (by rw [ho];rfl)⟩
  ·refine ⟨fun e' ys hy=>?_,rfl,fun b' _=>YG hheap hsz b'⟩
   rw [ho] at hy ⊢
   cases q' with
   | zero => simp [Zo] at hy
   | succ q' =>
    simp only [Zn,Zo] at hy ⊢
    by_cases hqq:q'=q
    ·subst hqq
     rw [hq] at hy
     simp only [Option.some.injEq,Prod.mk.injEq] at hy
     obtain ⟨rfl,rfl⟩:=hy
     rw [List.getElem?_set_self (List.getElem?_eq_some_iff.1 hq).1]
     exact ⟨xs',rfl,hl⟩
    ·rw [List.getElem?_set_ne (fun h=>hqq h.symm)]
     exact ⟨ys,hy,rfl⟩
  ·rw [ho]
   refine ⟨b0,arr0,t0,by rw [Zp];exact g1,g2,(setRow_other w b b0 arr' hne).trans g3,by rw [List.length_set];exact g4,g5,fun x hx=>?_,fun i x u hx hu=>?_⟩
   ·rcases List.mem_or_eq_of_mem_set hx with hx | hx
    ·exact g6 x hx
    ·exact .inr (.inl ⟨_,_,_,hx⟩)
   ·rw [Zp]
    by_cases hi:i=q
    ·subst hi
     rw [List.getElem?_set_self (List.getElem?_eq_some_iff.1 hq).1] at hx
     simp only [Option.some.injEq] at hx
     subst hx
     show ZQ c.P _ lim true e xs' u (X d (i+1))
     rw [hX]
     refine hnew u ?_
     rw [← hX]
     exact g7 i _ u hq hu
    ·rw [List.getElem?_set_ne (fun h=>hi h.symm)] at hx
     refine (g7 i x u hx hu).mono hstep.ext fun b' hb'=>hstep.blk b' (h.ours d (i+1) b' hb').1 fun e'=>?_
     have:=(h.dist d (i+1) d (q+1) b' hb' (by rw [e'];exact hX)).2
     omega
  ·exact ⟨by have:=(h.ours d k b' hk).1;simpa using this,(h.ours d k b' hk).2,fun i j hi hij=>hi (h.dist i j d k b' hij hk).1⟩
theorem Zkm {P:Program} {o:Oper} {σ:Nat→AV} {T e:TypeId} {t t':Operand} {i:TypeInfo} {z:Value} {zc zc':List AV} {k:IntKind} {m:Int} (x:Bool) (ho:o.op = .makeSlice T t t') (hT:P.underlying T=some (.slice e)) (hi:P.info? e=some i)
  (hz:i.zero=some z) (hzs:z.cells.size=i.size) (hzc:Zac z.cells.toList=some zc) (ht:Zr P σ t = .val (.int k m)) (ht':Zr P σ t' = .val (.int k m)) (h0:0≤m) (hm:m.toNat*(i.bytes+1)≤Ja) (hnm:Zm P e=false)
  (hw:zc'.length=zc.length∧∀ (w:World) (lim:Nat→Nat) (us:List Value),Yf w lim zc us→Yf w lim zc' us) :
  JA P o σ (.own x e (List.replicate m.toNat zc')) [] []:=by
 intro c hc σ' tm w lim X hid hag hsim next Q hn
 have hg:Zr P σ' t=Zr P σ t:=ZA fun u hu=>hid u (by simp [Zt (o:=o) (x:=t) (by rw [ho];simp [Op.operands]) hu])
 have hg':Zr P σ' t'=Zr P σ t':=ZA fun u hu=>hid u (by simp [Zt (o:=o) (x:=t') (by rw [ho];simp [Op.operands]) hu])
 have hv:Act.eval ⟨tm,[]⟩ t = .int k m:=Z1 hc hsim ht hg
 have hv':Act.eval ⟨tm,[]⟩ t' = .int k m:=Z1 hc hsim ht' hg'
 have hsz:P.cellsOf e=i.size:=ZG hi
 have hzr:=hw.2 w lim _ (YZ (w:=w) (lim:=lim) hzc)
 have hzl:z.cells.toList.length=i.size:=by rw [← hzs];simp
 have hb1:m.toNat≤1099511627776:=by
  have:m.toNat*1≤m.toNat*(i.bytes+1):=Nat.mul_le_mul_left _ (by omega)
  unfold Ja at hm
  omega
 have hb2:(i.bytes:Int)*m≤281474976710656:=by
  have h1:m.toNat*i.bytes≤m.toNat*(i.bytes+1):=Nat.mul_le_mul_left _ (by omega)
  unfold Ja at hm
  have h2:((m.toNat*i.bytes:Nat):Int)=(i.bytes:Int)*m:=by
   rw [Int.natCast_mul,Int.mul_comm]
   congr 1
   omega
  omega
 have hmx:(1099511627776:Nat)≤maxLen:=by decide
 have hrun:=run_make (P:=P) w T e i z hT hi hz k k m m h0 (Int.le_refl _) hb2 (by omega)
 have hmade:madeCells z.cells (m.toNat*i.size)=((List.replicate m.toNat z.cells.toList).flatten).toArray:=by
  have:=replicate_zero z.cells.toList m.toNat
  rw [hzl,Array.toArray_toList] at this
  exact this
 have hrl:=YI hzr m.toNat
 have hx1:∀ x∈List.replicate m.toNat zc',x.length=P.cellsOf e:=by
  intro x hx
  rw [(List.mem_replicate.1 hx).2,hzr.1,hzl,hsz]
 have hstep:=YC w lim (madeCells z.cells (m.toNat*i.size)) e (if x=true then 0 else m.toNat*i.size) (fun _=>False)
 have hx2:∀ x∈List.replicate m.toNat zc',∀ y∈x,y.isCell=true:=fun x hx y hy=>by
  rw [(List.mem_replicate.1 hx).2] at hy
  exact hzr.2.1 y hy
 have hx3:∀ (j:Nat) (y:AV) (u:Value),(List.replicate m.toNat zc').flatten[j]? = some y→(madeCells z.cells (m.toNat*i.size))[j]? = some u→Rep (w.alloc (.cells (madeCells z.cells (m.toNat*i.size)) e)) (fun b=>if b=w.heap.size then (if x=true then 0 else m.toNat*i.size) else lim b) y u:=fun j y u hy hu=>(hrl.2.2 j y u hy (by rw [hmade] at hu;simpa using hu)).mono hstep.ext
 have hms:(madeCells z.cells (m.toNat*i.size)).toList.length=m.toNat*i.size:=by rw [Array.length_toList,size_madeCells]
 have key:ZQ P (w.alloc (.cells (madeCells z.cells (m.toNat*i.size)) e)) (fun b=>if b=w.heap.size then (if x=true then 0 else m.toNat*i.size) else lim b) x e (List.replicate m.toNat zc') (.slice (some ⟨w.heap.size,0,none⟩) (List.replicate m.toNat zc').length m.toNat) (some w.heap.size):=by
  cases x
  ·refine .inl ⟨(madeCells z.cells (m.toNat*i.size)).toList,⟨by rw [hms,List.length_replicate,hsz],.inr ⟨w.heap.size,m.toNat,_,rfl,Nat.zero_le _,YF w _ e,by simp,by omega,by rw [size_madeCells,hsz],List.take_of_length_le (by rw [hms,List.length_replicate,hsz];exact Nat.le_refl _)⟩⟩,rfl,fun b hb=>?_,hx1,hx2,fun j y u hy hu=>hx3 j y u hy (by simpa using hu)⟩
   cases hb
   show (if w.heap.size=w.heap.size then (if false=true then 0 else m.toNat*i.size) else lim w.heap.size)=_
   rw [if_pos rfl,hms]
  ·exact KK (YF w _ e) (if_pos rfl) (by simp) (by omega) (by rw [size_madeCells,hsz]) hx1 hx2 hx3
 rw [List.length_replicate] at key
 have hw2:=hsim.world hstep fun _ hs=>hs.elim
 refine Zq (v:=.slice (some ⟨w.heap.size,0,none⟩) m.toNat m.toNat) (w':=w.alloc (.cells (madeCells z.cells (m.toNat*i.size)) e)) ?_ (hn _ _ (Z8 hw2 (by rw [hc];exact key) (fun b hb=>?_) (fun _=>.cells fun b hb=>by cases hb;exact ⟨_,_,_,YF w _ e⟩) fun _ hd=>by rw [hc,ZT hnm] at hd;cases hd))
 ·simp only [execOp,ho,hv,hv',Sem.run_bind,hrun,Result.andThen_ok,Sem.run_pure]
 ·simp only [Option.some.injEq] at hb
  subst hb
  exact ⟨.inr hsim.frm.size,fun i j=>YT hsim i j⟩
theorem Zcp {c:Ctx} {σ:Nat→AV} {tm:Array Value} {w:World} {lim:Nat→Nat} {X:Nat→Nat→Option Nat} (h:Sim c σ tm w lim X) {d q k:Nat} {e:TypeId} {xs:List (List AV)} {v:Value}
  (hd:Zo (σ d) q=some (e,xs)) (hv:ZP c.P w lim X σ k (.mref d q) v) (hnm:Zm c.P e=false∨Zg c.P e=true):(xs = []∧(v = .slice none 0 0∨∃ a,v = .slice (some a) 0 0))∨
   ∃ b arr cap cap',X d q=some b∧v = .slice (some ⟨b,0,none⟩) xs.length cap'∧w.heap[b]? = some (.cells arr (bT e) (0,0))∧lim b=0∧xs.length≤cap∧cap≤maxLen∧
   arr.size=cap*c.P.cellsOf (bT e)∧(∀ x∈xs,x.length=c.P.cellsOf (bT e))∧(∀ x∈xs,∀ c∈x,c.isCell=true)∧∀ (j:Nat) (c:AV) (u:Value),xs.flatten[j]? = some c→arr[j]? = some u→Rep w lim c u:=by
 obtain ⟨e',xs',h1,h2⟩:=hv
 rw [hd] at h1
 simp only [Option.some.injEq,Prod.mk.injEq] at h1
 obtain ⟨rfl,rfl⟩:=h1
 have hno:Zm c.P e=true→Zg c.P e=false→False:=fun h1 h2=>by
  rcases hnm with h3 | h3
  ·rw [h3] at h1;cases h1
  ·rw [h3] at h2;cases h2
 rcases h2 with ⟨_,h2,h3⟩ | ⟨b,arr,cap',h2,h3,h4,h5⟩ | ⟨h2,h3,_⟩ | ⟨h2,h3,_⟩
 ·exact .inl ⟨List.eq_nil_of_length_eq_zero h2,h3⟩
 ·obtain ⟨u,ho⟩:=JI h hd
  rw [h2] at ho
  obtain ⟨arr0,cap,g1,g2,g3⟩:=Ke ho hnm (by rw [← h2];exact h.deepB (Z7 hd))
  exact .inr ⟨b,arr0,cap,cap',h2,h5,g2,g3⟩
 ·exact (hno h2 h3).elim
 ·exact (hno h2 h3).elim
theorem Zd3 {c:Ctx} {σ:Nat→AV} {tm:Array Value} {w:World} {lim:Nat→Nat} {X:Nat→Nat→Option Nat} (h:Sim c σ tm w lim X) {d q k:Nat} {e:TypeId} {xs:List (List AV)} {v:Value}
  (hd:Zo (σ d) q=some (e,xs)) (hv:ZP c.P w lim X σ k (.mref d q) v) (hnm:Zm c.P e=false):(xs = []∧(v = .slice none 0 0∨∃ a,v = .slice (some a) 0 0))∨
   ∃ b arr cap cap',X d q=some b∧v = .slice (some ⟨b,0,none⟩) xs.length cap'∧w.heap[b]? = some (.cells arr e (0,0))∧lim b=0∧xs.length≤cap∧cap≤maxLen∧
   arr.size=cap*c.P.cellsOf e∧(∀ x∈xs,x.length=c.P.cellsOf e)∧(∀ x∈xs,∀ c∈x,c.isCell=true)∧∀ (j:Nat) (c:AV) (u:Value),xs.flatten[j]? = some c→arr[j]? = some u→Rep w lim c u:=by
 have:=Zcp h hd hv (.inl hnm)
 rwa [Kd hnm] at this
theorem Zcc {P:Program} {o:Oper} {σ:Nat→AV} {T e e':TypeId} {x i:Operand} {d q:Nat} {xs:List (List AV)} {k:IntKind} {z:Int} (ho:o.op = .indexAddr T x i)
  (hT:P.underlying T=some (.slice e)) (hs0:P.cellsOf e≠0) (hx:Zr P σ x = .mref d q) (hd:Zo (σ d) q=some (e',xs)) (hbe:bT e'=e) (hi:Zr P σ i = .val (.int k z)) (h0:0≤z) (hz:z.toNat < xs.length) (hnm:Zm P e'=false∨Zg P e'=true) :
  JA P o σ (.eref d q (z.toNat*P.cellsOf e+0)) [] [d]:=by
 refine ZE [d] rfl fun c hc σ' tm w lim X hg hfp hsim=>?_
 rw [ho] at hg
 have hv:=J0 hc hsim hx (hg x (by simp [Op.operands]))
 have hiv:=Z1 hc hsim hi (hg i (by simp [Op.operands]))
 have hd':Zo (σ' d) q=some (e',xs):=by rw [hfp d (by simp),hd]
 rw [← hc] at hv
 rcases Zcp hsim hd' hv (by rw [hc];exact hnm) with ⟨rfl,_⟩ | ⟨b,arr,cap,cap',g1,g2,g3⟩
 ·simp at hz
 ·obtain ⟨inf,hinf⟩:=ZH hs0
  have hsz:P.cellsOf e=inf.size:=ZG hinf
  refine ⟨.pointer (some ⟨b,z.toNat*P.cellsOf e+0,none⟩),?_,b,e',xs,hd',g1,.inl ⟨hnm,rfl⟩⟩
  have hb:0≤z∧z < (xs.length:Int):=⟨h0,by omega⟩
  simp [execOp,ho,g2,hiv,Instr.indexAt,asIntOf,run_underlying hT,hb,Zx hinf,JC]
theorem JX {s:Nat} : ∀ (xs:List (List AV)) (k:Nat),(∀ x∈xs,x.length=s)→(xs.take k).flatten=xs.flatten.take (k*s)
 | [], k, _ => by simp
 | x :: xs, 0, _ => by simp
 | x :: xs, k + 1, h => by
  have hx:x.length=s:=h x (by simp)
  simp only [List.take_succ_cons,List.flatten_cons]
  rw [JX xs k fun y hy=>h y (by simp [hy]),List.take_append]
  have e1:(k+1)*s-x.length=k*s:=by rw [Nat.succ_mul];omega
  rw [e1,List.take_of_length_le (l:=x) (by rw [Nat.succ_mul];omega)]
theorem VS {s:Nat} : ∀ (xs:List (List AV)) (k:Nat),(∀ x∈xs,x.length=s)→(xs.drop k).flatten=xs.flatten.drop (k*s)
 | [], k, _ => by simp
 | x :: xs, 0, _ => by simp
 | x :: xs, k + 1, h => by
  have hx:x.length=s:=h x (by simp)
  simp only [List.drop_succ_cons,List.flatten_cons]
  rw [VS xs k fun y hy=>h y (by simp [hy]),List.drop_append]
  have e1:(k+1)*s-x.length=k*s:=by rw [Nat.succ_mul];omega
  rw [e1,List.drop_of_length_le (l:=x) (by rw [Nat.succ_mul];omega)]
  rfl
theorem Jt {s:Nat} {xs:List (List AV)} {i o:Nat} {e:List AV} (h:∀ x∈xs,x.length=s) (hi:i < xs.length) (ho:o+e.length≤s) :
  (Zw xs i o e).flatten=xs.flatten.take (i*s+o)++e++xs.flatten.drop (i*s+o+e.length):=by
 have hx:xs[i].length=s:=h _ (List.getElem_mem hi)
 have e0:xs=xs.take i++xs[i]::xs.drop (i+1):=by rw [List.getElem_cons_drop,List.take_append_drop]
 have hl:(xs.take i).flatten.length=i*s:=by
  rw [JX xs i h,List.length_take,Zl xs _ h]
  have:i*s≤xs.length*s:=Nat.mul_le_mul_right _ (by omega)
  omega
 have e1:Zw xs i o e=xs.take i++setCells xs[i] o e::xs.drop (i+1):=by
  unfold Zw
  rw [List.modify_eq_take_cons_drop hi]
 have e2:=congrArg List.flatten e0
 rw [List.flatten_append,List.flatten_cons] at e2
 rw [e1,e2]
 simp only [List.flatten_append,List.flatten_cons]
 rw [List.take_append,List.drop_append,hl,List.take_of_length_le (l:=(xs.take i).flatten) (by rw [hl];omega),List.drop_of_length_le (l:=(xs.take i).flatten) (by rw [hl];omega)]
 have e3:i*s+o-i*s=o:=by omega
 have e4:i*s+o+e.length-i*s=o+e.length:=by omega
 rw [e3,e4,List.take_append_of_le_length (by omega),List.drop_append_of_le_length (by omega)]
 unfold setCells
 simp only [List.nil_append,List.append_assoc]
theorem Yz {s:Nat} {xs:List (List AV)} {i o:Nat} {e:List AV} (h:∀ x∈xs,x.length=s) (hc:∀ x∈xs,∀ c∈x,c.isCell=true) (ho:o+e.length≤s) (he:∀ c∈e,c.isCell=true) :
  ∀ x∈Zw xs i o e,x.length=s∧∀ c∈x,c.isCell=true:=by
 intro x hx
 obtain ⟨j,hj⟩:=List.mem_iff_getElem?.1 hx
 unfold Zw at hj
 rw [List.getElem?_modify] at hj
 cases hy:xs[j]? with
 | none => rw [hy] at hj; cases hj
 | some y =>
  rw [hy] at hj
  simp only [Option.map_eq_map,Option.map_some,Option.some.injEq] at hj
  subst hj
  split
  ·have hm:=List.mem_of_getElem? hy
   have hl:=h y hm
   refine ⟨by simp [setCells,hl];omega,fun c hcx=>?_⟩
   unfold setCells at hcx
   rcases List.mem_append.1 hcx with hcx | hcx
   ·rcases List.mem_append.1 hcx with hcx | hcx
    ·exact hc y hm c (List.mem_of_mem_take hcx)
    ·exact he c hcx
   ·exact hc y hm c (List.mem_of_mem_drop hcx)
  ·have hm:=List.mem_of_getElem? hy
   exact ⟨h y hm,hc y hm⟩
theorem Zea {R:AV→Value→Prop} {zs vs:List AV} {us ws:List Value} {off:Nat} (h:∀ (j:Nat) (z:AV) (u:Value),zs[j]? = some z→us[j]? = some u→R z u) (h':∀ (j:Nat) (z:AV) (u:Value),vs[j]? = some z→ws[j]? = some u→R z u)
  (hl:vs.length=ws.length) (h1:off≤zs.length) (h2:off≤us.length) :
  ∀ (j:Nat) (z:AV) (u:Value),(zs.take off++vs++zs.drop (off+vs.length))[j]? = some z→(us.take off++ws++us.drop (off+ws.length))[j]? = some u→R z u:=by
 intro j z u hz hu
 have l1:(zs.take off).length=off:=by rw [List.length_take];omega
 have l2:(us.take off).length=off:=by rw [List.length_take];omega
 rw [List.append_assoc] at hz hu
 rcases Nat.lt_or_ge j off with hlt | hge
 ·rw [List.getElem?_append_left (by omega),List.getElem?_take_of_lt hlt] at hz hu
  exact h j z u hz hu
 ·rw [List.getElem?_append_right (by omega),l1] at hz
  rw [List.getElem?_append_right (by omega),l2] at hu
  rcases Nat.lt_or_ge (j-off) vs.length with hlt | hge'
  ·rw [List.getElem?_append_left hlt] at hz
   rw [List.getElem?_append_left (by omega)] at hu
   exact h' _ z u hz hu
  ·rw [List.getElem?_append_right hge',List.getElem?_drop] at hz
   rw [List.getElem?_append_right (by omega),List.getElem?_drop] at hu
   rw [← hl] at hu
   exact h _ z u hz hu
theorem Zey {c:Ctx} {σ:Nat→AV} {tm:Array Value} {w:World} {lim:Nat→Nat} {X:Nat→Nat→Option Nat} (h:Sim c σ tm w lim X) {d q k p:Nat} {e:TypeId} {xs:List (List AV)} {v:Value}
  (hd:Zo (σ d) q=some (e,xs)) (hv:ZP c.P w lim X σ k (.eref d q p) v) (hnm:Zm c.P e=false) :
   ∃ b arr cap,X d q=some b∧v = .pointer (some ⟨b,p,none⟩)∧w.heap[b]? = some (.cells arr e (0,0))∧lim b=0∧xs.length≤cap∧cap≤maxLen∧
   arr.size=cap*c.P.cellsOf e∧(∀ x∈xs,x.length=c.P.cellsOf e)∧(∀ x∈xs,∀ c∈x,c.isCell=true)∧∀ (j:Nat) (c:AV) (u:Value),xs.flatten[j]? = some c→arr[j]? = some u→Rep w lim c u:=by
 obtain ⟨b,e',xs',h1,h2,h3⟩:=hv
 rw [hd] at h1
 simp only [Option.some.injEq,Prod.mk.injEq] at h1
 obtain ⟨rfl,rfl⟩:=h1
 obtain ⟨u,ho⟩:=JI h hd
 rw [h2] at ho
 obtain ⟨arr0,cap,g1,g2,g3⟩:=Vk ho (.inl hnm)
 exact ⟨b,arr0,cap,h2,h3.ptr (.inl hnm),g2,g3⟩
theorem Zhx {w:World} {lim:Nat→Nat} {xs:List (List AV)} {s i off n:Nat} {row:List AV} {arr:Array Value} {cap:Nat} (h1:∀ x∈xs,x.length=s) (h2:∀ x∈xs,∀ c∈x,c.isCell=true)
  (h3:∀ (j:Nat) (c:AV) (u:Value),xs.flatten[j]? = some c→arr[j]? = some u→Rep w lim c u) (h4:arr.size=cap*s) (h5:xs.length≤cap) (hrow:xs[i]? = some row) (hfit:off+n≤s) :
  ((arr.toList.drop (i*s+off)).take n).length=n∧((row.drop off).take n).length=n∧(∀ c∈(row.drop off).take n,c.isCell=true)∧
   ∀ (j:Nat) (c:AV) (u:Value),((row.drop off).take n)[j]? = some c→((arr.toList.drop (i*s+off)).take n)[j]? = some u→Rep w lim c u:=by
 have hi:=(List.getElem?_eq_some_iff.1 hrow).1
 have hrl:=h1 row (List.mem_of_getElem? hrow)
 have hm:i*s+s≤cap*s:=by
  rw [← Nat.succ_mul];exact Nat.mul_le_mul_right _ (by omega)
 refine ⟨by simp [h4];omega,by simp [hrl];omega,fun c hc=>h2 row (List.mem_of_getElem? hrow) c (List.mem_of_mem_drop (List.mem_of_mem_take hc)),fun j c u hc hu=>?_⟩
 rw [List.getElem?_take] at hc hu
 split at hc
 ·rename_i hj
  rw [if_pos hj,List.getElem?_drop] at hu
  rw [List.getElem?_drop] at hc
  refine h3 (i*s+(off+j)) c u ?_ ?_
  ·rw [JE xs s h1 i row hrow (off+j) (by omega)]
   exact hc
  ·rw [← Nat.add_assoc]
   simpa using hu
 ·cases hc
theorem Wt {P:Program} {o:Oper} {σ:Nat→AV} {T e:TypeId} {a:Operand} {d q i off:Nat} {xs:List (List AV)} {row:List AV} (ho:o.op = .load T a) (hT:Z0 P T=some true)
  (ha:Zr P σ a = .eref d q (i*P.cellsOf e+off)) (hd:Zo (σ d) q=some (e,xs)) (hrow:xs[i]? = some row) (hn:off+P.cellsOf T≤P.cellsOf e) (hnm:Zm P e=false):JA P o σ (.agg ((row.drop off).take (P.cellsOf T))) [] [d]:=by
 refine ZE [d] rfl fun c hc σ' tm w lim X hg hfp hsim=>?_
 rw [ho] at hg
 have hv:=J0 hc hsim ha (hg a (by simp [Op.operands]))
 have hd':Zo (σ' d) q=some (e,xs):=by rw [hfp d (by simp),hd]
 rw [← hc] at hv
 obtain ⟨b,arr,cap,g1,g2,g3,g4,g5,g6,g7,g8,g9,g10⟩:=Zey hsim hd' hv (by rw [hc];exact hnm)
 rw [hc] at g2 g7 g8
 obtain ⟨k1,k2,k3,k4⟩:=Zhx (off:=off) (n:=P.cellsOf T) g8 g9 g10 g7 g5 hrow hn
 refine ⟨.agg ((arr.toList.drop (i*P.cellsOf e+off)).take (P.cellsOf T)).toArray,?_,?_⟩
 ·have:=J7 (w:=w) (b:=b) (off:=i*P.cellsOf e+off) hT k1 (fun j u hj=>by
   rw [Zs g3]
   rw [List.getElem?_take] at hj
   split at hj
   ·simpa using hj
   ·cases hj)
  simp [execOp,ho,g2,this]
 ·exact .agg (by rw [k1,k2]) k3 k4
theorem VW {P:Program} {o:Oper} {σ:Nat→AV} {T e:TypeId} {a:Operand} {d q i off:Nat} {xs:List (List AV)} {row:List AV} {x:AV} (ho:o.op = .load T a) (hT:Z0 P T=some false)
  (ha:Zr P σ a = .eref d q (i*P.cellsOf e+off)) (hd:Zo (σ d) q=some (e,xs)) (hrow:xs[i]? = some row) (hn:off+1≤P.cellsOf e) (hx:row[off]? = some x) (hnm:Zm P e=false):JA P o σ x [] [d]:=by
 intro c hc σ' tm w lim X hid hag hsim next Q hnx
 have hg:Zr P σ' a=Zr P σ a:=ZA fun t ht=>hid t (by simp [Zt (o:=o) (x:=a) (by rw [ho];simp [Op.operands]) ht])
 have hv:=J0 hc hsim ha hg
 have hd':Zo (σ' d) q=some (e,xs):=by rw [hag d (by simp),hd]
 rw [← hc] at hv
 obtain ⟨b,arr,cap,g1,g2,g3,g4,g5,g6,g7,g8,g9,g10⟩:=Zey hsim hd' hv (by rw [hc];exact hnm)
 rw [hc] at g2 g7 g8
 obtain ⟨k1,k2,k3,k4⟩:=Zhx (off:=off) (n:=1) g8 g9 g10 g7 g5 hrow hn
 have e1:(row.drop off).take 1 = [x]:=by rw [List.take_one,List.head?_drop,hx];rfl
 obtain ⟨u,hu⟩:∃ u,(arr.toList.drop (i*P.cellsOf e+off)).take 1 = [u]:=List.length_eq_one_iff.1 k1
 rw [e1] at k3 k4
 rw [hu] at k4
 have hcell:w.cell? ⟨b,i*P.cellsOf e+off,none⟩=some u:=by
  rw [Zs g3]
  have h1:((arr.toList.drop (i*P.cellsOf e+off)).take 1)[0]? = some u:=by rw [hu];rfl
  rw [List.getElem?_take,if_pos (by omega),List.getElem?_drop] at h1
  simpa using h1
 obtain ⟨p1,p2⟩:=Kv (P:=P) (X:=X) (σ:=σ') (k:=0) (k3 x (by simp)) (k4 0 x u rfl rfl)
 refine Zq (v:=u) ?_ (hnx u w (Zy hsim p1 (k:=0) (by rw [hc];exact p2)))
 simp [execOp,ho,g2,Jy hT hcell]
theorem Zcm {P:Program} {o:Oper} {σ:Nat→AV} {T e:TypeId} {a x:Operand} {d q i off:Nat} {xs:List (List AV)} {vc vc':List AV} {y:AV} (ho:o.op = .store T a x) (ha:Zr P σ a = .eref d q (i*P.cellsOf e+off)) (hd:Zo (σ d) q=some (e,xs)) (hng:(σ d).isG=false)
  (hx:Zr P σ x=y) (hy:y.cells? = some vc) (hn:vc.length=P.cellsOf T) (h0:P.cellsOf T≠0) (hi:i < xs.length) (hfit:off+P.cellsOf T≤P.cellsOf e)
  (hw:vc'.length=vc.length∧∀ (w:World) (lim:Nat→Nat) (us:List Value),Yf w lim vc us→Yf w lim vc' us) (hnm:Zm P e=false) :
  JA P o σ .dead [(d,Zn (σ d) q true e (Zw xs i off vc'))] [d]:=by
 intro c hc σ' tm w lim X hid hag hsim next Q hnx
 have hga:Zr P σ' a=Zr P σ a:=ZA fun t ht=>hid t (by simp [Zt (o:=o) (x:=a) (by rw [ho];simp [Op.operands]) ht])
 have hgx:Zr P σ' x=Zr P σ x:=ZA fun t ht=>hid t (by simp [Zt (o:=o) (x:=x) (by rw [ho];simp [Op.operands]) ht])
 have hsd:σ' d=σ d:=hag d (by simp)
 have hd':Zo (σ' d) q=some (e,xs):=by rw [hsd,hd]
 have hva:=J0 hc hsim ha hga
 rw [← hc] at hva
 obtain ⟨us,h4,h5⟩:=Vg hy (J0 hc hsim hx hgx)
 obtain ⟨b,arr,cap,g1,h3,g3,g4,g6,g7,g8,g9,g10,g11⟩:=Zey hsim hd' hva (by rw [hc];exact hnm)
 rw [hc] at g8 g9 h3
 obtain ⟨inf,hinf⟩:=ZH h0
 have h5':=hw.2 w lim us h5
 have hlen:us.length=P.cellsOf T:=by rw [← h5.1,hn]
 have hmul:i*P.cellsOf e+P.cellsOf e≤xs.length*P.cellsOf e:=by
  rw [← Nat.succ_mul];exact Nat.mul_le_mul_right _ hi
 have hcap:xs.length*P.cellsOf e≤cap*P.cellsOf e:=Nat.mul_le_mul_right _ g6
 have hmem:=Yz (i:=i) g9 g10 (by rw [hw.1,hn];exact hfit) h5'.2.1
 have hst:=Yy (P:=P) (T:=T) (w:=w) (b:=b) (off:=i*P.cellsOf e+off) (v:=Act.eval ⟨tm,[]⟩ x) hinf h4 hlen g3 (by rw [hlen,g8];omega) (fun u hu=>by
  obtain ⟨j,hj⟩:=List.mem_iff_getElem?.1 hu
  have hlt:j < vc.length:=by rw [h5.1];exact (List.getElem?_eq_some_iff.1 hj).1
  exact (h5.2.2 j _ u (List.getElem?_eq_getElem hlt) hj).oneCell (h5.2.1 _ (List.getElem_mem hlt)))
 obtain ⟨X',hset⟩:=hsim.setPlace (xs':=Zw xs i off vc') (arr':=(arr.toList.take (i*P.cellsOf e+off)++us++arr.toList.drop (i*P.cellsOf e+off+us.length)).toArray) hd' (by rw [hsd];exact hng) g1 g3
  (by simp [g8];omega) (by simp [Zw]) (fun x hx=>by rw [hc];exact (hmem x hx).1) (fun x hx=>(hmem x hx).2) (fun j z u hz hu=>by
   rw [Jt g9 (by omega) (by rw [hw.1,hn];exact hfit)] at hz
   refine Zea (R:=Rep w lim) (us:=arr.toList) (fun j z u hz hu=>g11 j z u hz (by simpa using hu)) h5'.2.2 (by rw [hw.1,h5.1]) ?_ ?_ j z u hz (by simpa using hu)
   ·rw [Zl xs _ g9];omega
   ·simp [g8];omega)
 rw [hsd] at hset
 refine JQ (w':=w.setRow b (arr.toList.take (i*P.cellsOf e+off)++us++arr.toList.drop (i*P.cellsOf e+off+us.length)).toArray) ?_ (hnx undef _ ?_)
 ·simp only [execOp,ho,h3,Sem.run_bind,hst,Result.andThen_ok,Sem.run_pure]
 ·exact Zy hset rfl (k:=0) trivial
theorem Zes {P:Program} {o:Oper} {σ:Nat→AV} {cl:Call} {x:Operand} {T el e:TypeId} {d q:Nat} {xs:List (List AV)} (ho:o.op = .call cl) (hcl:cl.callee = .builtin .len)
  (hargs:cl.args.toList = [x]) (hts:cl.argTypes.toList = [T]) (hT:P.underlying T=some (.slice el)) (hx:Zr P σ x = .mref d q) (hd:Zo (σ d) q=some (e,xs)) (hnm:Zm P e=false∨Zg P e=true):JA P o σ (.val (.int .i64 xs.length)) [] [d]:=by
 have hargs':cl.args = #[x]:=by apply Array.toList_inj.1;rw [hargs]
 have hts':cl.argTypes = #[T]:=by apply Array.toList_inj.1;rw [hts]
 refine ZE [d] rfl fun c hc σ' tm w lim X hg hfp hsim=>⟨.int .i64 xs.length,?_,.val rfl⟩
 rw [ho] at hg
 have hv:=J0 hc hsim hx (hg x (by simp [Op.operands,Call.operands,hargs',hcl]))
 have hd':Zo (σ' d) q=some (e,xs):=by rw [hfp d (by simp),hd]
 rw [← hc] at hv
 have hform:∃ a cap,Act.eval ⟨tm,[]⟩ x = .slice a xs.length cap:=by
  rcases Zcp hsim hd' hv (by rw [hc];exact hnm) with ⟨rfl,h | ⟨a,h⟩⟩ | ⟨b,arr,cap,cap',g1,g2,g3⟩
  ·exact ⟨_,_,h⟩
  ·exact ⟨_,_,h⟩
  ·exact ⟨_,_,g2⟩
 obtain ⟨a,cap,g2⟩:=hform
 simp [execOp,ho,hcl,resolve,hargs',hts',invoke,builtin,Builtin.len_,g2,run_underlying hT,goInt]
theorem ZhS {P:Program} {w:World} {lim:Nat→Nat} {f:Bool} {ys:List (List AV)} {v:Value} (n:Nat) (h:Rep w lim (.slice f 1 ys) v) :
  (v = .slice none 0 0∧ys = [])∨∃ (a:Addr) (sLen sCap:Nat) (cs:List Value),v = .slice (some a) sLen sCap∧cs.length=Nat.min sLen n∧sLen=ys.length∧(∀ y∈ys,y.length=1∧∀ c∈y,c.isCell=true)∧(∀ j u,cs[j]? = some u→w.cell? (a.add j)=some u)∧
   (∀ u∈cs,u.oneCell'=true)∧∀ (j:Nat) (z:AV) (u:Value),(ys.take n).flatten[j]? = some z→cs[j]? = some u→Rep w lim z u:=by
 have key:∀ (y:AV),Rep w lim y v→y = .slice f 1 ys→(v = .slice none 0 0∧ys = [])∨∃ (a:Addr) (sLen sCap:Nat) (cs:List Value),v = .slice (some a) sLen sCap∧cs.length=Nat.min sLen n∧sLen=ys.length∧(∀ y∈ys,y.length=1∧∀ c∈y,c.isCell=true)∧(∀ j u,cs[j]? = some u→w.cell? (a.add j)=some u)∧
   (∀ u∈cs,u.oneCell'=true)∧∀ (j:Nat) (z:AV) (u:Value),(ys.take n).flatten[j]? = some z→cs[j]? = some u→Rep w lim z u:=by
  intro y hy hye
  cases hy with
  | sliceN => injection hye with h1 h2 h3; exact .inl ⟨rfl, h3.symm⟩
  | @sliceE f' s2 a cap hf =>
   injection hye with h1 h2 h3
   subst h3
   exact .inr ⟨a,0,cap,[],rfl,by simp,rfl,by simp,by simp,by simp,by simp⟩
  | @sliceC f' s2 xs b o cap us hs hc hf hle hlim hus hcell hr =>
   injection hye with h1 h2 h3
   subst h2
   subst h3
   have hfl:xs.flatten.length=us.length:=by rw [Zl xs _ hs,hus]
   refine .inr ⟨⟨b,o,none⟩,xs.length,cap,us.take n,rfl,?_,rfl,fun y hy=>⟨hs y hy,hc y hy⟩,fun j u hj=>?_,fun u hu=>?_,fun j z u hz hu=>?_⟩
   ·rw [List.length_take,hus,Nat.mul_one];exact Nat.min_comm _ _
   ·rw [List.getElem?_take] at hj
    split at hj
    ·rw [JC];exact hcell j u hj
    ·cases hj
   ·obtain ⟨j,hj⟩:=List.mem_iff_getElem?.1 (List.mem_of_mem_take hu)
    have hlt:j < xs.flatten.length:=by rw [hfl];exact (List.getElem?_eq_some_iff.1 hj).1
    have hz:xs.flatten[j]? = some xs.flatten[j]:=List.getElem?_eq_getElem hlt
    obtain ⟨l,hl,hzl⟩:=List.mem_flatten.1 (List.getElem_mem hlt)
    exact (hr j _ u hz hj).oneCell (hc l hl _ hzl)
   ·rw [JX xs n hs,Nat.mul_one,List.getElem?_take] at hz
    rw [List.getElem?_take] at hu
    split at hz
    ·rename_i hjn
     rw [if_pos hjn] at hu
     exact hr j z u hz hu
    ·cases hz
  | val _ => cases hye
  | agg _ _ _ => cases hye
  | nest => cases hye
 exact key _ h rfl
theorem ZdT {P:Program} {w:World} {T T' ty e:TypeId} {v u:Value} {inf:TypeInfo} (hT:P.underlying T=some (.slice e)) (hi:P.info? e=some inf) (hv:v = .slice none 0 0∨∃ a,v = .slice (some a) 0 0)
  (hu:∃ b n c,u = .slice b n c):(Builtin.copy_ #[T,T'] ty #[v,u]).run P w = .ok (goInt 0) w:=by
 obtain ⟨b,n,c,rfl⟩:=hu
 have hl:∀ a,(loadCells a 0).run P w = .ok #[] w:=fun a=>run_loadCells_list (P:=P) w a [] (fun j v hj=>by simp at hj)
 have hz:Nat.min n 0=0:=Nat.min_zero n
 rcases hv with rfl | ⟨a,rfl⟩ <;> cases b<;>simp [Builtin.copy_,run_underlying hT,Zx hi,Builtin.lenOf,Builtin.firstCells,hz,hl,storeCells]
theorem ZcD {P:Program} {o:Oper} {σ:Nat→AV} {cl:Call} {T T' e:TypeId} {x y:Operand} {d q:Nat} {xs ys:List (List AV)} {f:Bool} (ho:o.op = .call cl) (hcl:cl.callee = .builtin .copy)
  (hargs:cl.args.toList = [x,y]) (hts:cl.argTypes.toList = [T,T']) (hT:P.underlying T=some (.slice e)) (hs:P.cellsOf e=1) (hx:Zr P σ x = .mref d q) (hd:Zo (σ d) q=some (e,xs)) (hng:(σ d).isG=false) (hy:Zr P σ y = .slice f 1 ys) (hnm:Zm P e=false) :
  JA P o σ .dead [(d,Zn (σ d) q true e (Znm xs ys))] [d]:=by
 have hargs':cl.args = #[x,y]:=by apply Array.toList_inj.1;rw [hargs]
 have hts':cl.argTypes = #[T,T']:=by apply Array.toList_inj.1;rw [hts]
 intro c hc σ' tm w lim X hid hag hsim next Q hn
 subst hc
 have hgx:Zr c.P σ' x=Zr c.P σ x:=ZA fun t ht=>hid t (by simp [Zt (o:=o) (x:=x) (by rw [ho];simp [Op.operands,Call.operands,hargs',hcl]) ht])
 have hgy:Zr c.P σ' y=Zr c.P σ y:=ZA fun t ht=>hid t (by simp [Zt (o:=o) (x:=y) (by rw [ho];simp [Op.operands,Call.operands,hargs',hcl]) ht])
 have hsd:σ' d=σ d:=hag d (by simp)
 have hd':Zo (σ' d) q=some (e,xs):=by rw [hsd,hd]
 have hyv:Rep w lim (.slice f 1 ys) (Act.eval ⟨tm,[]⟩ y):=J0 rfl hsim hy hgy
 obtain ⟨inf,hinf⟩:=ZH (P:=c.P) (T:=e) (by omega)
 have hsz:c.P.cellsOf e=inf.size:=ZG hinf
 have hs1:(c.P.info? e).map (·.size)=some 1:=by rw [hinf,Option.map_some,← hsz,hs]
 have hsame:∀ xs',xs'=xs→Ju σ' [(d,Zn (σ d) q true e xs')]=σ':=by
  rintro xs' rfl
  funext k
  simp only [Ju,upd]
  split
  ·rename_i hk
   subst hk
   rw [hsd]
   rcases Zz hd with ⟨h1,rfl⟩ | ⟨cs,q,h1,rfl,h2⟩ | ⟨cs,q,h1,rfl,h2⟩
   case inr.inr=>rw [h1] at hng;cases hng
   ·rw [h1];rfl
   ·rw [h1]
    simp only [Zn,AV.box.injEq]
    apply List.ext_getElem?
    intro i
    by_cases hi:i=q
    ·subst hi
     rw [List.getElem?_set_self (List.getElem?_eq_some_iff.1 h2).1,h2]
    ·rw [List.getElem?_set_ne (fun h=>hi h.symm)]
  ·rfl
 rcases Zd3 hsim hd' (J0 rfl hsim hx hgx) hnm with ⟨rfl,hv0⟩ | ⟨b,arr,cap,cap',g1,g2,g3,g4,g6,g7,g8,g9,g10,g11⟩
 ·have hrun:=ZdT (P:=c.P) (w:=w) (T:=T) (T':=T') (ty:=o.type) (u:=Act.eval ⟨tm,[]⟩ y) hT hinf hv0 (by
   rcases ZhS (P:=c.P) 0 hyv with ⟨h,_⟩ | ⟨a,sLen,sCap,cs,h,_⟩
   ·exact ⟨_,_,_,h⟩
   ·exact ⟨_,_,_,h⟩)
  refine Zq (v:=goInt 0) (w':=w) ?_ (hn _ w ?_)
  ·simp only [execOp,ho,resolve,hcl,hargs',hts',List.map_toArray,List.map_cons,List.map_nil,Sem.run_bind,Sem.run_pure,Result.andThen_ok,invoke,builtin,hrun]
  ·rw [hsame _ (by simp [Znm])]
   exact Zy hsim rfl (k:=0) trivial
 have hf1:∀ x∈xs,x.length=1:=fun x hx=>by rw [g9 x hx,hs]
 rw [hs,Nat.mul_one] at g8
 rcases ZhS (P:=c.P) xs.length hyv with ⟨hv,hnil⟩ | ⟨a,sLen,sCap,cs,hv,h1,h2,h3,h4,h5,h6⟩
 ·subst hnil
  have hrun:=run_copy_nil c.P w T T' o.type e ⟨b,0,none⟩ xs.length cap' hT (by rw [hs1];rfl)
  refine Zq (v:=goInt 0) (w':=w) ?_ (hn _ w ?_)
  ·simp only [execOp,ho,resolve,hcl,hargs',hts',List.map_toArray,List.map_cons,List.map_nil,Sem.run_bind,Sem.run_pure,Result.andThen_ok,invoke,builtin,g2,hv,hrun]
  ·rw [hsame _ (by simp [Znm])]
   exact Zy hsim rfl (k:=0) trivial
 ·have h1':cs.length=min sLen xs.length:=h1
  have hrun:=run_copy_row c.P w T T' o.type e b 0 xs.length cap' a sLen sCap arr e cs hT hs1 g3 h1 h4 (by rw [h1',g8];omega) h5
  rw [Nat.zero_add] at hrun
  have hcl':cs.length≤xs.length:=by rw [h1];exact Nat.min_le_right _ _
  have e1:Znm xs ys=ys.take xs.length++xs.drop cs.length:=by
   unfold Znm
   rw [h1']
   congr 1
   by_cases hle:ys.length≤xs.length
   ·rw [h2,Nat.min_eq_left hle]
   ·rw [h2,Nat.min_eq_right (by omega),List.drop_of_length_le (by omega),List.drop_of_length_le (by omega)]
  have hyl:(ys.take xs.length).length=cs.length:=by rw [List.length_take,h1',h2];exact Nat.min_comm _ _
  have hm:∀ x∈Znm xs ys,x.length=1∧∀ c∈x,c.isCell=true:=by
   rw [e1]
   intro x hx
   rcases List.mem_append.1 hx with hx | hx
   ·exact h3 x (List.mem_of_mem_take hx)
   ·exact ⟨hf1 x (List.mem_of_mem_drop hx),g10 x (List.mem_of_mem_drop hx)⟩
  have hyf:(ys.take xs.length).flatten.length=cs.length:=by rw [Zl (ys.take xs.length) 1 fun y hy=>(h3 y (List.mem_of_mem_take hy)).1,hyl,Nat.mul_one]
  obtain ⟨X',hset⟩:=hsim.setPlace (xs':=Znm xs ys) (arr':=(arr.toList.take 0++cs++arr.toList.drop cs.length).toArray) hd' (by rw [hsd];exact hng) g1 g3 (by simp;omega) (by rw [e1,List.length_append,hyl,List.length_drop];omega)
   (fun x hx=>by rw [hs];exact (hm x hx).1) (fun x hx=>(hm x hx).2) (fun j z u hz hu=>by
    rw [e1,List.flatten_append,VS xs cs.length hf1,Nat.mul_one] at hz
    refine Zea (R:=Rep w lim) (off:=0) (zs:=xs.flatten) (us:=arr.toList) (fun j z u hz hu=>g11 j z u hz (by simpa using hu)) h6 hyf (Nat.zero_le _) (Nat.zero_le _) j z u ?_ ?_
    ·rw [Nat.zero_add,hyf];simpa using hz
    ·rw [Nat.zero_add];simpa using hu)
  rw [hsd] at hset
  refine Zq (v:=goInt cs.length) (w':=w.setRow b (arr.toList.take 0++cs++arr.toList.drop cs.length).toArray) ?_ (hn _ _ (Zy hset rfl (k:=0) trivial))
  simp only [execOp,ho,resolve,hcl,hargs',hts',List.map_toArray,List.map_cons,List.map_nil,Sem.run_bind,Sem.run_pure,Result.andThen_ok,invoke,builtin,g2,hv,hrun]
theorem ZgO {T':Odr} {P:Program} {o:Oper} {σ:Nat→AV} {T e:TypeId} {x y:Operand} {d:Nat} {xs:List (List AV)} {k:IntKind} {h:Nat} {us:List (Nat×AV)} (ho:o.op = .slice T x none (some y) none) (hT:P.underlying T=some (.slice e)) (hs0:P.cellsOf e≠0)
  (hx:Zr P σ x = .mref d 0) (hd:σ d = .own true e xs) (hy:Zr P σ y = .val (.int k h)) (hh:h≤xs.length) (hus:Yd T' σ d us) (hnm:Zm P e=false) :
  YY T' P o σ (.own true e (xs.take h)) ((d,Vn P true e xs)::us) [d]:=by
 intro c hc σ' tm w lim X hid hag hTx hsim next Q hn
 have hgx:Zr P σ' x=Zr P σ x:=ZA fun t ht=>hid t (by simp [Zt (o:=o) (x:=x) (by rw [ho];simp [Op.operands]) ht])
 have hgy:Zr P σ' y=Zr P σ y:=ZA fun t ht=>hid t (by simp [Zt (o:=o) (x:=y) (by rw [ho];simp [Op.operands]) ht])
 have hd':σ' d = .own true e xs:=by rw [hag d (by simp),hd]
 have hv:=J0 hc hsim hx hgx
 have hyv:=Z1 hc hsim hy hgy
 rw [← hc] at hv
 obtain ⟨X1,k1,k2,k3,_⟩:=hsim.freeAll (us:=us) hd' (.inr (hus.all hTx))
 rw [hc] at k1
 obtain ⟨inf,hinf⟩:=ZH hs0
 have hat:Zo (σ' d) 0=some (e,xs):=by rw [hd'];rfl
 rcases Zd3 hsim hat hv (by rw [hc];exact hnm) with ⟨rfl,hform⟩ | ⟨b,arr,cap,cap',g1,g2,g3,g4,g5,g6,g7,g8,g9,g10⟩
 ·have hh0:h=0:=by simpa using hh
  subst hh0
  rcases hform with hf | ⟨a,hf⟩
  ·refine Zq (v:=.slice none 0 0) (w':=w) ?_ (hn _ w (Z8 (ob:=none) k1 (.inl ⟨[],World.ownsRow_nil _ 0 e _,rfl,by simp,by simp,by simp,by simp⟩) (by simp) (fun _=>.none rfl) fun _ _ b hb=>by cases hb))
   simp [execOp,ho,hf,hyv,Instr.sliceAt,Instr.slice,Instr.sliceBounds,Instr.sliceBound,asIntOf,run_underlying hT,Zx hinf]
  ·refine Zq (v:=.slice (some a) 0 0) (w':=w) ?_ (hn _ w (Z8 (ob:=none) k1 (.inr (.inl ⟨rfl,rfl,a,rfl⟩)) (by simp) (fun _=>.none rfl) fun _ _ b hb=>by cases hb))
   simp [execOp,ho,hf,hyv,Instr.sliceAt,Instr.slice,Instr.sliceBounds,Instr.sliceBound,asIntOf,run_underlying hT,Zx hinf]
 ·have hsz:P.cellsOf e=inf.size:=ZG hinf
  have hle:xs.length≤cap':=by
   obtain ⟨e2,xs2,m1,m2⟩:=hv
   rw [hat] at m1
   simp only [Option.some.injEq,Prod.mk.injEq] at m1
   obtain ⟨rfl,rfl⟩:=m1
   rcases m2.noMap (by rw [hc];exact hnm) with ⟨m2,_⟩ | ⟨b',arr',cap2,m2,m3,m4,m5⟩
   ·rw [g1] at m2;cases m2
   ·rw [g1] at m2
    have hb:b=b':=Option.some.inj m2
    subst hb
    rw [g3] at m3
    simp only [Option.some.injEq,Obj.cells.injEq,and_true] at m3
    subst m3
    rw [g2] at m5
    simp only [Value.slice.injEq] at m5
    have hcap:cap2=cap:=Nat.eq_of_mul_eq_mul_right (by rw [hc];omega) (m4.symm.trans g7)
    omega
  have hce:cap'=cap:=by
   obtain ⟨e2,xs2,m1,m2⟩:=hv
   rw [hat] at m1
   simp only [Option.some.injEq,Prod.mk.injEq] at m1
   obtain ⟨rfl,rfl⟩:=m1
   rcases m2.noMap (by rw [hc];exact hnm) with ⟨m2,_⟩ | ⟨b',arr',cap2,m2,m3,m4,m5⟩
   ·rw [g1] at m2;cases m2
   ·rw [g1] at m2
    have hb:b=b':=Option.some.inj m2
    subst hb
    rw [g3] at m3
    simp only [Option.some.injEq,Obj.cells.injEq,and_true] at m3
    subst m3
    rw [g2] at m5
    simp only [Value.slice.injEq] at m5
    have hcap:cap2=cap:=Nat.eq_of_mul_eq_mul_right (by rw [hc];omega) (m4.symm.trans g7)
    omega
  subst hce
  have hlt:(xs.take h).length=h:=by rw [List.length_take];omega
  have key:ZQ c.P w lim true e (xs.take h) (.slice (some ⟨b,0,none⟩) (xs.take h).length cap') (some b):=
   KK g3 g4 (by omega) g6 g7 (fun x hx=>g8 x (List.mem_of_mem_take hx)) (fun x hx=>g9 x (List.mem_of_mem_take hx)) fun j z u hz hu=>g10 j z u (by
    rw [JX xs h g8,List.getElem?_take] at hz
    split at hz
    ·exact hz
    ·cases hz) hu
  rw [hlt] at key
  refine Zq (v:=.slice (some ⟨b,0,none⟩) h cap') (w':=w) ?_ (hn _ w (Z8 k1 key (fun b' hb'=>?_) (fun _=>.noMap (by rw [hc];exact hnm)) fun _ hd=>by rw [hc,ZT hnm] at hd;cases hd))
  ·have b1:h≤cap':=by omega
   simp [execOp,ho,g2,hyv,Instr.sliceAt,Instr.slice,Instr.sliceBounds,Instr.sliceBound,asIntOf,run_underlying hT,Zx hinf,b1,JC]
  ·exact k3 b' (g1.trans hb')
theorem ZjT {c:Ctx} {σ:Nat→AV} {tm:Array Value} {w:World} {lim:Nat→Nat} {X:Nat→Nat→Option Nat} (h:Sim c σ tm w lim X) {d q k:Nat} {e:TypeId} {xs:List (List AV)} {v:Value}
  (hd:Zo (σ d) q=some (e,xs)) (hv:ZP c.P w lim X σ k (.mref d q) v) (hnm:Zm c.P e=false):RdS w lim (c.P.cellsOf e) xs v:=by
 rcases Zd3 h hd hv hnm with ⟨h1,h2 | ⟨a,h2⟩⟩ | ⟨b,arr,cap,cap',g1,g2,g3,g4,g5,g6,g7,g8,g9,g10⟩
 ·exact .inl ⟨h1,_,_,h2⟩
 ·exact .inl ⟨h1,_,_,h2⟩
 ·have hal:arr.toList.length=cap*c.P.cellsOf e:=by simpa using g7
  have hle:xs.length*c.P.cellsOf e≤arr.toList.length:=by rw [hal];exact Nat.mul_le_mul_right _ g5
  refine .inr ⟨b,0,cap',arr.toList.take (xs.length*c.P.cellsOf e),g2,g8,g9,by rw [List.length_take];omega,fun j u hj=>?_,fun j z u hz hu=>?_⟩
  ·rw [List.getElem?_take] at hj
   split at hj
   ·rw [Nat.zero_add,Zs g3]
    simpa using hj
   ·cases hj
  ·rw [List.getElem?_take] at hu
   split at hu
   ·exact g10 j z u hz (by simpa using hu)
   ·cases hu
theorem Zbd {P:Program} {o:Oper} {σ:Nat→AV} {T e:TypeId} {x y z:Operand} {d q s:Nat} {k k':IntKind} (ho:o.op = .slice T x none (some y) (some z))
  (hT:P.underlying T=some (.slice e)) (hs0:P.cellsOf e≠0) (hx:Zr P σ x = .mref d q) (hy:Zr P σ y = .val (.int k 0)) (hz:Zr P σ z = .val (.int k' 0)) {e':TypeId} {xs':List (List AV)} (hd:Zo (σ d) q=some (e',xs')) (hnm:Zm P e'=false):JA P o σ (.slice true s []) [] [d]:=by
 refine ZE [d] rfl fun c hc σ' tm w lim X hg hfp hsim=>?_
 rw [ho] at hg
 have hv:=J0 hc hsim hx (hg x (by simp [Op.operands]))
 have hy':=Z1 hc hsim hy (hg y (by simp [Op.operands]))
 have hz':=Z1 hc hsim hz (hg z (by simp [Op.operands]))
 obtain ⟨inf,hinf⟩:=ZH hs0
 generalize hu:Act.eval ⟨tm,[]⟩ x=u at hv
 obtain ⟨e2,xs,he2,hv⟩:=hv
 rw [hfp d (by simp),hd] at he2
 simp only [Option.some.injEq,Prod.mk.injEq] at he2
 obtain ⟨rfl,rfl⟩:=he2
 rcases hv.noMap hnm with ⟨_,_,rfl | ⟨a,rfl⟩⟩ | ⟨b,arr,cap,_,_,_,rfl⟩
 ·refine ⟨.slice none 0 0,?_,.sliceN⟩
  simp [execOp,ho,hu,hy',hz',Instr.sliceAt,Instr.slice,Instr.sliceBounds,Instr.sliceBound,asIntOf,run_underlying hT,Zx hinf]
 ·refine ⟨.slice (some a) 0 0,?_,.sliceE (fun _=>rfl)⟩
  simp [execOp,ho,hu,hy',hz',Instr.sliceAt,Instr.slice,Instr.sliceBounds,Instr.sliceBound,asIntOf,run_underlying hT,Zx hinf]
 ·refine ⟨.slice (some ⟨b,0,none⟩) 0 0,?_,.sliceE (fun _=>rfl)⟩
  simp [execOp,ho,hu,hy',hz',Instr.sliceAt,Instr.slice,Instr.sliceBounds,Instr.sliceBound,asIntOf,run_underlying hT,Zx hinf]
theorem Vp {P:Program} {o:Oper} {σ:Nat→AV} (ex:Bool) {cl:Call} {T e:TypeId} {i:TypeInfo} {z:Value} {x y:Operand} {d q:Nat} {ys:List (List AV)} {s:Nat} (ho:o.op = .call cl) (hcl:cl.callee = .builtin .append)
  (hargs:cl.args.toList = [x,y]) (hts:cl.argTypes.toList = [T,T]) (hT:P.underlying T=some (.slice e)) (hi:P.info? e=some i) (hz:i.zero=some z) (hzs:z.cells.size=i.size)
  (hx:Zr P σ x = .slice true s []) (hy:Zr P σ y = .mref d q) (hd:Zo (σ d) q=some (e,ys)) (hroom:(([] : List (List AV)).length+ys.length)*(i.bytes+1)≤Ja) (hnm:Zm P e=false) :
  JA P o σ (.own ex e ys) [] [d]:=by
 have hargs':cl.args = #[x,y]:=by apply Array.toList_inj.1;rw [hargs]
 have hts':cl.argTypes = #[T,T]:=by apply Array.toList_inj.1;rw [hts]
 intro c hc σ' tm w lim X hid hag hsim next Q hn
 have hgx:Zr P σ' x=Zr P σ x:=ZA fun t ht=>hid t (by simp [Zt (o:=o) (x:=x) (by rw [ho];simp [Op.operands,Call.operands,hargs',hcl]) ht])
 have hgy:Zr P σ' y=Zr P σ y:=ZA fun t ht=>hid t (by simp [Zt (o:=o) (x:=y) (by rw [ho];simp [Op.operands,Call.operands,hargs',hcl]) ht])
 have hxv:ZQ P w lim ex e [] (Act.eval ⟨tm,[]⟩ x) none:=Za4 (s:=s) (J0 hc hsim hx hgx)
 have hd':Zo (σ' d) q=some (e,ys):=by rw [hag d (by simp),hd]
 have hyv:RdS w lim (P.cellsOf e) ys (Act.eval ⟨tm,[]⟩ y):=by
  have hv:=J0 hc hsim hy hgy
  rw [← hc] at hv ⊢
  exact ZjT hsim hd' hv (by rw [hc];exact hnm)
 obtain ⟨v',w',lim',ob',r1,r2,r3,r4⟩:=Ky (ty:=o.type) hT hi hz hzs hxv hyv hroom hnm
 have hw:=hsim.world r3 fun b hb=>by cases hb
 refine Zq (v:=v') (w':=w') ?_ (hn _ w' ?_)
 ·simp only [execOp,ho,resolve,hcl,hargs',hts',List.map_toArray,List.map_cons,List.map_nil,Sem.run_bind,Sem.run_pure,Result.andThen_ok,invoke,builtin,r1]
 ·rw [← hc,List.nil_append] at r2
  refine Z8 hw r2 (fun b hb=>?_) (fun _=>.noMap (by rw [hc];exact hnm)) fun _ hd=>by rw [hc,ZT hnm] at hd;cases hd
  rcases r4 with r4 | r4
  ·rw [r4] at hb;cases hb
  ·rw [r4] at hb
   simp only [Option.some.injEq] at hb
   subst hb
   exact ⟨.inr hsim.frm.size,fun i j=>YT hsim i j⟩
theorem VO {T':Odr} {P:Program} {o:Oper} {σ:Nat→AV} {cl:Call} {T e:TypeId} {i:TypeInfo} {z:Value} {t:Nat} {y:Operand} {x:Bool} {xs ys:List (List AV)} {us:List (Nat×AV)} {d q:Nat} (ho:o.op = .call cl) (hcl:cl.callee = .builtin .append)
  (hargs:cl.args.toList = [.tmp t,y]) (hts:cl.argTypes.toList = [T,T]) (hT:P.underlying T=some (.slice e)) (hi:P.info? e=some i) (hz:i.zero=some z) (hzs:z.cells.size=i.size)
  (ht:σ t = .own x e xs) (hy:Zr P σ y = .mref d q) (hd:Zo (σ d) q=some (e,ys)) (hroom:(xs.length+ys.length)*(i.bytes+1)≤Ja) (hus:(x=false∧us = [])∨Yd T' σ t us) (hnm:Zm P e=false) :
  YY T' P o σ (.own x e (xs++ys)) ((t,Vn P x e xs)::us) [d]:=by
 have hargs':cl.args = #[.tmp t,y]:=by apply Array.toList_inj.1;rw [hargs]
 have hts':cl.argTypes = #[T,T]:=by apply Array.toList_inj.1;rw [hts]
 intro c hc σ' tm w lim X hid hag hTx hsim next Q hn
 have hgy:Zr P σ' y=Zr P σ y:=ZA fun t ht=>hid t (by simp [Zt (o:=o) (x:=y) (by rw [ho];simp [Op.operands,Call.operands,hargs',hcl]) ht])
 have ht':σ' t = .own x e xs:=by rw [hag t (by simp),ht]
 obtain ⟨X1,h1,h2,h3,_⟩:=hsim.freeAll (us:=us) ht' (hus.imp id fun h=>h.all hTx)
 have hd':Zo (σ' d) q=some (e,ys):=by rw [hag d (by simp),hd]
 have hyv:RdS w lim (P.cellsOf e) ys (Act.eval ⟨tm,[]⟩ y):=by
  have hv:=J0 hc hsim hy hgy
  rw [← hc] at hv ⊢
  exact ZjT hsim hd' hv (by rw [hc];exact hnm)
 rw [hc] at h2
 obtain ⟨v',w',lim',ob',r1,r2,r3,r4⟩:=Ky (ty:=o.type) hT hi hz hzs h2 hyv hroom hnm
 have hw:=h1.world r3 h3
 refine Zq (v:=v') (w':=w') ?_ (hn _ w' ?_)
 ·have hev:Act.eval ⟨tm,[]⟩ (.tmp t)=tm.getD t undef:=rfl
  simp only [execOp,ho,resolve,hcl,hargs',hts',List.map_toArray,List.map_cons,List.map_nil,Sem.run_bind,Sem.run_pure,Result.andThen_ok,invoke,builtin,hev,r1]
 ·rw [hc] at hw
  rw [← hc] at r2
  refine Z8 hw r2 (fun b hb=>?_) (fun _=>.noMap (by rw [hc];exact hnm)) fun _ hd=>by rw [hc,ZT hnm] at hd;cases hd
  rcases r4 with r4 | r4
  ·rw [r4] at hb;exact h3 b hb
  ·rw [r4] at hb
   simp only [Option.some.injEq] at hb
   subst hb
   exact ⟨.inr hsim.frm.size,fun i j=>YT h1 i j⟩
theorem VU {P:Program} {w:World} {T ty e:TypeId} {a:Option Addr} {c:Nat} (hT:P.underlying T=some (.slice e)):(Builtin.clear_ #[T] ty #[.slice a 0 c]).run P w = .ok (.tuple #[]) w:=by
 cases a<;>simp [Builtin.clear_,run_underlying hT]
theorem WH {P:Program} {w:World} {T ty e t:TypeId} {inf:TypeInfo} {z:Value} {b o n c:Nat} {arr:Array Value} (hT:P.underlying T=some (.slice e)) (hi:P.info? e=some inf) (hz:inf.zero=some z) (hg:w.heap[b]? = some (.cells arr t (0,0)))
  (hfit:o+(n+1)*z.cells.size≤arr.size) (h1:∀ v∈z.cells.toList,v.oneCell'=true) :
  (Builtin.clear_ #[T] ty #[.slice (some ⟨b,o,none⟩) (n+1) c]).run P w =
   .ok (.tuple #[]) (w.setRow b (arr.toList.take o++(List.replicate (n+1) z.cells.toList).flatten++arr.toList.drop (o+(n+1)*z.cells.size)).toArray):=by
 have hrep:=replicate_zero z.cells.toList (n+1)
 rw [Array.toArray_toList] at hrep
 have hzc:(Builtin.zeroCells z.cells (n+1)).toList=(List.replicate (n+1) z.cells.toList).flatten:=by
  have:Builtin.zeroCells z.cells (n+1)=madeCells z.cells ((n+1)*z.cells.toList.length):=by simp [Builtin.zeroCells,madeCells]
  rw [this]
  have h2:madeCells z.cells ((n+1)*z.cells.toList.length)=((List.replicate (n+1) z.cells.toList).flatten).toArray:=hrep
  rw [h2]
 have hlen:((List.replicate (n+1) z.cells.toList).flatten).length=(n+1)*z.cells.size:=by simp
 have hst:=run_storeCells_at P b o t ((List.replicate (n+1) z.cells.toList).flatten) 0 arr w hg (by rw [hlen];exact hfit) (fun v hv=>by
  obtain ⟨l,hl,hv⟩:=List.mem_flatten.1 hv
  rw [(List.mem_replicate.1 hl).2] at hv
  exact h1 v hv)
 rw [Nat.add_zero,hlen] at hst
 simp [Builtin.clear_,run_underlying hT,zeroValue,typeInfo,run_program,hi,hz,hzc,hst]
theorem Sim.clear {c:Ctx} {σ:Nat→AV} {tm:Array Value} {w:World} {lim:Nat→Nat} {X:Nat→Nat→Option Nat} (h:Sim c σ tm w lim X) {x n:Nat} {T e:TypeId} {inf:TypeInfo} {z:Value} {zc:List AV} {xs:List (List AV)} (hx:σ x = .own true e xs)
  (hT:c.P.underlying T=some (.slice e)) (hi:c.P.info? e=some inf) (hz:inf.zero=some z) (hzs:z.cells.size=inf.size) (h0:0 < inf.size) (hzr:∀ (w:World) (lim:Nat→Nat),Yf w lim zc z.cells.toList) (h1z:∀ v∈z.cells.toList,v.oneCell'=true) (hn:n≤xs.length) (hnm:Zm c.P e=false) :
  ∃ v2 w' X',(Instr.sliceAt T (tm.getD x undef) (some (.int .i64 n)) none none).run c.P w = .ok v2 w∧(∀ ty,(Builtin.clear_ #[T] ty #[v2]).run c.P w = .ok (.tuple #[]) w')∧
   Sim c (upd σ x (.own true e (xs.take n++List.replicate (xs.length-n) zc))) tm w' lim X'∧xs.length≤maxLen:=by
 have hk:c.P.cellsOf e=inf.size:=ZG hi
 have hrel:=h.rel x
 rw [hx] at hrel
 have hrel:ZQ c.P w lim true e xs (tm.getD x undef) (X x 0):=hrel
 have same:∀ ys,ys=xs→upd σ x (.own true e ys)=σ:=by
  rintro ys rfl
  funext i
  by_cases hi:i=x
  ·subst hi;rw [ZC,hx]
  ·rw [Zf σ _ hi]
 have hsz:∀ w,(sizeOf e).run c.P w = .ok inf.size w:=fun w=>by rw [Zx hi,hk]
 cases hX:X x 0 with
 | none =>
  rw [hX] at hrel
  have hform:∃ base,tm.getD x undef = .slice base 0 0∧xs = []:=by
   rcases hrel.noMap hnm with ⟨us,hr,hob,_⟩ | ⟨hxs,_,a,hv⟩
   ·rcases hr.2 with ⟨hv,hl⟩ | ⟨g,cap,cur,hv,_⟩
    ·exact ⟨none,hv,List.eq_nil_of_length_eq_zero hl⟩
    ·rw [hv] at hob;cases hob
   ·exact ⟨_,hv,hxs⟩
  obtain ⟨base,hv,rfl⟩:=hform
  have hn0:n=0:=by simpa using hn
  subst hn0
  refine ⟨.slice base 0 0,w,X,?_,fun ty=>VU hT,by rw [same _ (by simp)];exact h,by simp⟩
  rw [hv]
  cases base<;>simp [Instr.sliceAt,Instr.slice,Instr.sliceBounds,Instr.sliceBound,asIntOf,run_underlying hT,hsz]
 | some b =>
  rw [hX] at hrel
  obtain ⟨arr,cap,hv,hg,hl,hle,hcm,hcs,hxl,hxc,hxr⟩:=Vk hrel (.inl hnm)
  rw [hk] at hcs hxl
  have hnc:n≤cap:=by omega
  have hzl:z.cells.toList.length=inf.size:=by rw [← hzs];simp
  have hslice:(Instr.sliceAt T (tm.getD x undef) (some (.int .i64 n)) none none).run c.P w = .ok (.slice (if cap=n then some ⟨b,0,none⟩ else some ⟨b,n*inf.size,none⟩) (xs.length-n) (cap-n)) w:=by
   rw [hv]
   have q1:n≤xs.length:=hn
   simp [Instr.sliceAt,Instr.slice,Instr.sliceBounds,Instr.sliceBound,asIntOf,run_underlying hT,hsz,q1,hnc,hle,JC]
  by_cases hend:n=xs.length
  ·refine ⟨_,w,X,hslice,fun ty=>?_,by rw [same _ (by rw [hend];simp)];exact h,by omega⟩
   rw [hend,Nat.sub_self]
   exact VU hT
  ·have hcn:¬ cap=n:=by omega
   obtain ⟨p,hp⟩:∃ p,xs.length-n=p+1:=⟨xs.length-n-1,by omega⟩
   have m1:n*inf.size+(p+1)*inf.size≤cap*inf.size:=by
    rw [← Nat.add_mul]
    exact Nat.mul_le_mul_right _ (by omega)
   rw [if_neg hcn,hp] at hslice
   have hclr:=fun ty=>WH (P:=c.P) (w:=w) (ty:=ty) (o:=n*inf.size) (n:=p) (c:=cap-n) hT hi hz hg (by rw [hzs,hcs];exact m1) h1z
   have hal:arr.toList.length=cap*inf.size:=by simpa using hcs
   have hfl:((List.replicate (p+1) z.cells.toList).flatten).length=(p+1)*inf.size:=by simp [hzl,← hzs]
   obtain ⟨arr',harr⟩:∃ arr',arr'=(arr.toList.take (n*inf.size)++(List.replicate (p+1) z.cells.toList).flatten++arr.toList.drop (n*inf.size+(p+1)*z.cells.size)).toArray:=⟨_,rfl⟩
   have hrl:=YI (hzr w lim) (p+1)
   have hxf:xs.flatten.length=xs.length*inf.size:=Zl xs _ hxl
   have hnx:n*inf.size≤xs.length*inf.size:=Nat.mul_le_mul_right _ hn
   obtain ⟨X',hs⟩:=h.setPlace (d:=x) (k:=0) (b:=b) (e:=e) (xs:=xs) (xs':=xs.take n++List.replicate (p+1) zc) (arr:=arr) (arr':=arr') (by rw [hx];rfl) (by rw [hx];rfl) hX hg
    (by
     rw [harr,List.size_toArray,List.length_append,List.length_append,hfl,List.length_take,List.length_drop,hal,hzs,hcs]
     omega)
    (by rw [List.length_append,List.length_take,List.length_replicate];omega)
    (fun y hy=>by
     rw [hk]
     rcases List.mem_append.1 hy with hy | hy
     ·exact hxl y (List.mem_of_mem_take hy)
     ·rw [(List.mem_replicate.1 hy).2,(hzr w lim).1,hzl])
    (fun y hy=>by
     rcases List.mem_append.1 hy with hy | hy
     ·exact hxc y (List.mem_of_mem_take hy)
     ·rw [(List.mem_replicate.1 hy).2]
      exact (hzr w lim).2.1)
    (fun j y u hy hu=>by
     rw [harr,List.getElem?_toArray,List.append_assoc] at hu
     rw [List.flatten_append,JX xs n hxl] at hy
     have hln:(xs.flatten.take (n*inf.size)).length=n*inf.size:=by rw [List.length_take,hxf];omega
     have hla:(arr.toList.take (n*inf.size)).length=n*inf.size:=by rw [List.length_take,hal];omega
     by_cases hj:j < n*inf.size
     ·rw [List.getElem?_append_left (by omega),List.getElem?_take,if_pos hj] at hy
      rw [List.getElem?_append_left (by omega),List.getElem?_take,if_pos hj] at hu
      exact hxr j y u hy (by simpa using hu)
     ·rw [List.getElem?_append_right (by omega),hln] at hy
      rw [List.getElem?_append_right (by omega),hla] at hu
      have hjl:=(List.getElem?_eq_some_iff.1 hy).1
      have hfz:((List.replicate (p+1) zc).flatten).length=(p+1)*inf.size:=by simp [(hzr w lim).1,hzl,← hzs]
      rw [hfz] at hjl
      rw [List.getElem?_append_left (by rw [hfl];exact hjl)] at hu
      exact hrl.2.2 _ y u hy hu)
   refine ⟨_,_,X',hslice,hclr,?_,by omega⟩
   rw [← harr,hp]
   rw [hx] at hs
   exact hs
end Go.AM
end

section
namespace Go.AM
open Go.MapKept
open Go.RowKit (Below Below.refl)
theorem JP (k:Int):IsKey (.int .i64) (.int .i64 k):=rfl
theorem WG (z:Int) (c:List AV):ZV (.val (.int .i64 z)::c)=some z:=rfl
theorem ZbS {es:Array MapEntry} {clock:Nat} {kvs:List (List AV)} (hl:es.size=kvs.length) (hs:Stamped es clock) (hr:∀ (i:Nat) (en:MapEntry) (row:List AV),es[i]? = some en→kvs[i]? = some row→∃ (z:Int) (tl:List AV),row = .val (.int .i64 z)::tl∧en.key = .int .i64 z) (k:Int) :
  (∀ x∈es.toList,IsKey (.int .i64) x.key)∧
  ((Instr.findNow (.int .i64) (.int .i64 k) es.toList 0=some none∧(∀ x∈es.toList,x.key≠.int .i64 k)∧∀ r∈kvs,ZV r≠some k)∨
   ∃ j en row,Instr.findNow (.int .i64) (.int .i64 k) es.toList 0=some (some (j,en.val))∧es[j]? = some en∧kvs[j]? = some row∧en.key = .int .i64 k∧ZV row=some k∧kvs.find? (fun r=>ZV r == some k)=some row∧∀ i r,kvs[i]? = some r→i≠j→ZV r≠some k):=by
 have hat:∀ i (hi:i < es.size),∃ row,kvs[i]? = some row∧∃ (z:Int) (tl:List AV),row = .val (.int .i64 z)::tl∧es[i].key = .int .i64 z:=fun i hi=>by
  have hi':i < kvs.length:=by omega
  exact ⟨kvs[i],List.getElem?_eq_getElem hi',hr i _ _ (Array.getElem?_eq_getElem hi) (List.getElem?_eq_getElem hi')⟩
 have hkey:∀ x∈es.toList,IsKey (.int .i64) x.key:=fun x hx=>by
  obtain ⟨i,hi,rfl⟩:=List.mem_iff_getElem.1 hx
  have hi':i < es.size:=by simpa using hi
  obtain ⟨row,_,z,ys,_,h2⟩:=hat i hi'
  have:es.toList[i]=es[i]:=by simp
  rw [this,h2]
  exact rfl
 have hrk:∀ i r (hi:i < es.size),kvs[i]? = some r→ZV r=some k→es[i].key = .int .i64 k:=fun i r hi hr' hk=>by
  obtain ⟨row,h1,z,ys,h3,h2⟩:=hat i hi
  rw [h1] at hr'
  cases hr'
  rw [h3,WG] at hk
  cases hk
  exact h2
 refine ⟨hkey,?_⟩
 rcases findNow_spec (JP k) es.toList 0 hkey with ⟨h1,h2⟩ | ⟨j,en,h1,h2,h3⟩
 ·refine .inl ⟨h1,h2,fun r hrm hk=>?_⟩
  obtain ⟨i,hi,rfl⟩:=List.mem_iff_getElem.1 hrm
  have hi':i < es.size:=by omega
  exact h2 es[i] (by simp) (hrk i _ hi' (List.getElem?_eq_getElem hi) hk)
 ·rw [Nat.zero_add] at h1
  have hj:es[j]? = some en:=by simpa using h2
  have hjl:j < es.size:=(Array.getElem?_eq_some_iff.1 hj).1
  obtain ⟨row,h4,z,ys,h5,h6⟩:=hat j hjl
  have hen:es[j]=en:=(Array.getElem?_eq_some_iff.1 hj).2
  rw [hen,h3] at h6
  cases h6
  have huniq:∀ i r,kvs[i]? = some r→i≠j→ZV r≠some k:=by
   intro i r hi hij hk
   have hil:i < es.size:=by have:=(List.getElem?_eq_some_iff.1 hi).1;omega
   have h8:=hrk i r hil hi hk
   have hn:=hs.2.2
   rw [List.Nodup,List.pairwise_iff_getElem] at hn
   have e1:(es.toList.map (·.key))[i]'(by simpa using hil) = .int .i64 k:=by simp [h8]
   have e2:(es.toList.map (·.key))[j]'(by simpa using hjl) = .int .i64 k:=by simp [hen,h3]
   rcases Nat.lt_or_gt_of_ne hij with hlt | hlt
   ·exact hn i j (by simpa using hil) (by simpa using hjl) hlt (e1.trans e2.symm)
   ·exact hn j i (by simpa using hjl) (by simpa using hil) hlt (e2.trans e1.symm)
  refine .inr ⟨j,en,row,h1,hj,h4,h3,by rw [h5];rfl,?_,huniq⟩
  have hjk:j < kvs.length:=by omega
  have hrow:kvs[j]=row:=(List.getElem?_eq_some_iff.1 h4).2
  have:kvs.find? (fun r=>ZV r == some k)=some kvs[j]:=by
   rw [List.find?_eq_some_iff_getElem]
   refine ⟨by rw [hrow,h5];simp [ZV],j,hjk,rfl,fun i hi=>?_⟩
   have:=huniq i kvs[i] (List.getElem?_eq_getElem (by omega)) (by omega)
   simpa using this
  rw [this,hrow]
theorem ZdH {P:Program} {et:TypeId} {w:World} {lim:Nat→Nat} {es:Array MapEntry} {clock:Nat} {kvs:List (List AV)} (hl:es.size=kvs.length) (hs:Stamped es clock) (hr:∀ (i:Nat) (en:MapEntry) (row:List AV),es[i]? = some en→kvs[i]? = some row→Zdi P w lim et en row) (k:Int) :
  (∀ x∈es.toList,IsKey (.int .i64) x.key)∧
  ((Instr.findNow (.int .i64) (.int .i64 k) es.toList 0=some none∧(∀ x∈es.toList,x.key≠.int .i64 k)∧∀ r∈kvs,ZV r≠some k)∨
   ∃ j en row,Instr.findNow (.int .i64) (.int .i64 k) es.toList 0=some (some (j,en.val))∧es[j]? = some en∧kvs[j]? = some row∧en.key = .int .i64 k∧ZV row=some k∧kvs.find? (fun r=>ZV r == some k)=some row∧∀ i r,kvs[i]? = some r→i≠j→ZV r≠some k):=
 ZbS hl hs (fun i en row h1 h2=>by obtain ⟨z,ys,g1,g2,_⟩:=hr i en row h1 h2;exact ⟨z,_,g1,g2⟩) k
def YR (w:World) (b:Nat) (o:Obj):World:={ w with heap:=w.heap.setIfInBounds b o }
theorem YE {w:World} {b:Nat} {o o':Obj} (h:w.heap[b]? = some o):(YR w b o').heap[b]? = some o':=(heap_set (o':=o') h).1
theorem JK {w:World} {b b':Nat} {o:Obj} (hb:b'≠b):(YR w b o).heap[b']? = w.heap[b']?:=by
 unfold YR
 simp [Ne.symm hb]
theorem Zap {w:World} {lim:Nat→Nat} {b:Nat} {es es':Array MapEntry} {clock clock':Nat} (h:w.heap[b]? = some (.map es clock)) (hl:lim b=0):ZN w lim (YR w b (.map es' clock')) lim (fun b'=>b'=b):=by
 refine ⟨rfl,rfl,rfl,by simp [YR],fun a ha=>?_,fun b' _ hb=>⟨JK hb,rfl⟩,fun b' _=>⟨Nat.le_refl _,fun o u ho hu=>?_⟩⟩
 ·by_cases hb:a.block=b
  ·unfold World.frozen?
   rw [hb,h,YE h]
  ·unfold World.frozen?
   rw [JK hb]
 ·by_cases hb:b'=b
  ·subst hb;omega
  ·unfold World.cell? at hu ⊢
   rw [JK hb]
   exact hu
theorem Wk {P:Program} {e:TypeId} (h:(Jj P (e-1048576)).isSome=true):Zg P e=false:=by
 obtain ⟨et,h⟩:=Option.isSome_iff_exists.1 h
 exact Kb h
theorem Zdj {c:Ctx} {σ:Nat→AV} {tm:Array Value} {w:World} {lim:Nat→Nat} {X:Nat→Nat→Option Nat} (h:Sim c σ tm w lim X) {d:Nat} {e:TypeId} {kvs:List (List AV)} {tl:List AV} (hd:σ d = .own true e [.slice false 2 kvs::tl]) (h0:c.P.cellsOf e=0) (hks:(Jj c.P (e-1048576)).isSome=true) :
  Zm c.P e=true∧∃ b es clock,X d 0=some b∧tm.getD d undef = .map (some b)∧w.heap[b]? = some (.map es clock)∧lim b=0∧es.size=kvs.length∧Stamped es clock∧
   ∃ et,Jj c.P (e-1048576)=some et∧∀ (i:Nat) (en:MapEntry) (row:List AV),es[i]? = some en→kvs[i]? = some row→Zdi c.P w lim et en row:=by
 have hr:=h.rel d
 rw [hd] at hr
 rcases (show ZQ c.P w lim true e _ _ (X d 0) from hr) with ⟨us,_,_,_,h4,_⟩ | ⟨h1,_⟩ | ⟨_,⟨hm,b,es,clock,kvs',et,het,h1,h2,h3,h4,⟨tl',h5⟩,h6,h7,h8⟩ | ⟨hd',_⟩ | ⟨_,_,_,_,_,_,⟨_,hk',_⟩,_⟩⟩
 ·have:=h4 _ (List.mem_singleton.2 rfl)
  rw [h0] at this
  cases this
 ·cases h1
 ·simp only [List.cons.injEq,AV.slice.injEq,true_and,and_true] at h5
  obtain ⟨rfl,rfl⟩:=h5
  exact ⟨hm,b,es,clock,h1,h2,h3,h4,h6,h7,et,het,h8⟩
 ·rw [Zbq hd'] at hks;cases hks
 ·rw [hk'] at hks;cases hks
theorem Wn {c:Ctx} {σ:Nat→AV} {tm:Array Value} {w:World} {lim:Nat→Nat} {X:Nat→Nat→Option Nat} (h:Sim c σ tm w lim X) {d k:Nat} {e:TypeId} {kvs:List (List AV)} {tl:List AV} (hd:σ d = .own true e [.slice false 2 kvs::tl]) (h0:c.P.cellsOf e=0) (hks:(Jj c.P (e-1048576)).isSome=true) {v:Value}
  (hv:ZP c.P w lim X σ k (.mref d 0) v):v=tm.getD d undef:=by
 obtain ⟨_,b,es,clock,h1,h2,h3,_⟩:=Zdj h hd h0 hks
 obtain ⟨e',xs',m1,m2⟩:=hv
 rw [hd] at m1
 simp only [Zo,Option.some.injEq,Prod.mk.injEq] at m1
 obtain ⟨rfl,rfl⟩:=m1
 rcases m2 with ⟨m2,_⟩ | ⟨b',arr,cap,m2,m3,_⟩ | ⟨_,_,b',arr,cap,m2,m3,_⟩ | ⟨_,_,b',es',clock',m2,m3,m4⟩
 ·rw [h1] at m2;cases m2
 ·rw [h1] at m2;cases m2;rw [h3] at m3;cases m3
 ·rw [h1] at m2;cases m2;rw [h3] at m3;cases m3
 ·rw [h1] at m2;cases m2;rw [m4,h2]
theorem Zet {kvs:List (List AV)} {k:Int} {cl:AV} {j:Nat} {row:List AV} (hj:kvs[j]? = some row) (hk:ZV row=some k) (hu:∀ i r,kvs[i]? = some r→i≠j→ZV r≠some k) :
  ∀ i r,(Kw kvs k cl)[i]? = some r→if i=j then r = [.val (.int .i64 k),cl] else kvs[i]? = some r∧ZV r≠some k:=by
 have hany:(kvs.any fun r=>ZV r == some k)=true:=List.any_eq_true.2 ⟨row,List.mem_of_getElem? hj,by simp [hk]⟩
 intro i r hi
 rw [Kw,if_pos hany,List.getElem?_map] at hi
 cases hr:kvs[i]? with
 | none => rw [hr] at hi; cases hi
 | some r0 =>
  rw [hr] at hi
  simp only [Option.map_some,Option.some.injEq] at hi
  by_cases hij:i=j
  ·subst hij
   rw [hj] at hr
   cases hr
   rw [if_pos rfl,← hi,if_pos (by simp [hk])]
  ·rw [if_neg hij]
   have:=hu i r0 hr hij
   rw [if_neg (by simpa using this)] at hi
   subst hi
   exact ⟨rfl,this⟩
theorem Zgq {kvs:List (List AV)} {k:Int} {cl:AV} {j:Nat} {row:List AV} (hj:kvs[j]? = some row) (hk:ZV row=some k):(Kw kvs k cl).length=kvs.length:=by
 have hany:(kvs.any fun r=>ZV r == some k)=true:=List.any_eq_true.2 ⟨row,List.mem_of_getElem? hj,by simp [hk]⟩
 rw [Kw,if_pos hany,List.length_map]
theorem ZjC {kvs:List (List AV)} {k:Int} {cl:AV} (h:∀ r∈kvs,ZV r≠some k):Kw kvs k cl=kvs++[[.val (.int .i64 k),cl]]:=by
 have hany:¬ (kvs.any fun r=>ZV r == some k)=true:=by
  rw [List.any_eq_true]
  rintro ⟨r,hr,hk⟩
  exact h r hr (by simpa using hk)
 rw [Kw,if_neg hany]
theorem Sim.mapTake {c:Ctx} {σ:Nat→AV} {tm:Array Value} {w:World} {lim:Nat→Nat} {X:Nat→Nat→Option Nat} (h:Sim c σ tm w lim X) {d:Nat} {e et:TypeId} {kvs:List (List AV)} (k:Int) (hd:σ d = .own true e [[.slice false 2 kvs]]) (h0:c.P.cellsOf e=0) (het:Jj c.P (e-1048576)=some et) {T kt vt:TypeId}
  (hT:c.P.underlying T=some (.map kt vt)) (hkt:c.P.underlying kt=some (.int .i64)) (hz:(zeroValue vt).run c.P w = .ok (.slice none 0 0) w) :
  ∃ X' v ob ys,(Instr.lookup T (tm.getD d undef) (.int .i64 k) false).run c.P w = .ok v w∧Sim c (upd σ d (.own true e (Zb5 [[.slice false 2 kvs]] k))) tm w lim X'∧ZQ c.P w lim false et ys v ob∧ys=Zas [[.slice false 2 kvs]] k∧
   ∀ b,ob=some b→(c.A b∨c.w0.heap.size≤b)∧∀ i j,X' i j≠some b:=by
 obtain ⟨hm,b,es,clock,hX,hv,hb,hlb,hl,hs,et',het',hr⟩:=Zdj h hd h0 (by rw [het];rfl)
 rw [het] at het'
 cases het'
 have hdn:d < c.nt:=by
  rcases Nat.lt_or_ge d c.nt with hlt | hge
  ·exact hlt
  ·have:=h.out d hge;rw [hd] at this;rcases this with h0 | h0<;>cases h0
 have hmo:=h.mp d e _ hd hm
 obtain ⟨hkeys,hfind⟩:=ZdH hl hs hr k
 -- the map with its hole, whatever is taken out
 have hole:∀ (r:Nat→Option Nat),(∀ q,r q=X d q∨r q=none)→r 0=X d 0→(∀ (i:Nat) (en:MapEntry) (row:List AV),es[i]? = some en→kvs[i]? = some row→ZV row≠some k→r (i+1)=X d (i+1))→
   Sim c (upd σ d (.own true e (Zb5 [[.slice false 2 kvs]] k))) tm w lim (KH X d r):=by
  intro r hr1 hr0 hr2
  have hsub:∀ q b',r q=some b'→X d q=some b':=fun q b' hq=>by
   rcases hr1 q with h1 | h1
   ·rw [← h1];exact hq
   ·rw [h1] at hq;cases hq
  refine h.putRow (hns:=fun k1 e1 xs1 b1 m1 m2 _=>by
   cases k1 with
   | zero =>
    simp only [ZX,Option.some.injEq,Prod.mk.injEq] at m1
    rw [← m1.1,Kb het] at m2
    cases m2
   | succ k1 => simp [ZX] at m1) (S := fun _ => False) r (ZN.refl w lim _) (fun _ hs => hs.elim) hdn rfl (fun _ _ => rfl) (.inl fun cs hcs => by rw [hd] at hcs; cases hcs) (fun i q hi hq => ⟨?_, ?_, fun b' hb' => .of rfl⟩) ?_
   (fun q b' hq=>⟨(h.ours d q b' (hsub q b' hq)).1,(h.ours d q b' (hsub q b' hq)).2,fun i j hij hx=>hij (h.dist i j d q b' hx (hsub q b' hq)).1⟩) (fun q q' b' hq hq'=>(h.dist d q d q' b' (hsub q b' hq) (hsub q' b' hq')).2) rfl ?_
  ·intro e1 xs1 ho
   rw [hd] at ho
   cases q with
   | zero => simp only [Zo, Option.some.injEq, Prod.mk.injEq] at ho; obtain ⟨rfl, rfl⟩ := ho; exact ⟨_, rfl, rfl⟩
   | succ q => cases ho
  ·obtain ⟨p,hp⟩:=Y7 h hq
   rw [hd] at hp
   cases q with
   | zero => exact hr0
   | succ q => cases hp
  ·show ZQ c.P w lim true e _ _ (KH X d r d 0)
   rw [Zp,hr0]
   exact .inr (.inr ⟨rfl,.inl ⟨hm,b,es,clock,kvs,et,het,hX,hv,hb,hlb,⟨_,rfl⟩,hl,hs,hr⟩⟩)
  ·intro e1 xs1 he
   injection he with _ h1 h2
   subst h1
   intro _ b1 es1 clock1 kvs1 tl1 et1 g0 g1 g2 g3 i en row g4 g5 g6
   rw [het] at g0
   cases g0
   rw [hr0,hX] at g1
   cases g1
   rw [hb] at g2
   cases g2
   rw [← h2] at g3
   simp only [Zb5,JJ,List.cons.injEq,AV.slice.injEq,true_and,and_true] at g3
   obtain ⟨rfl,rfl⟩:=g3
   have hne:ZV row≠some k:=by
    intro hk
    obtain ⟨z,ys,e1,_⟩:=hr i en row g4 g5
    rw [e1,WG] at hk
    cases hk
    exact g6 _ (List.mem_singleton.2 rfl) (by rw [e1];rfl)
   obtain ⟨z,ys,k1,k2⟩:=hmo b es clock kvs [] et het hX hb rfl i en row g4 g5 (by simp)
   exact ⟨z,ys,k1,by rw [hr2 i en row g4 g5 hne];exact k2⟩
 rcases hfind with ⟨h1,_,h2⟩ | ⟨j,en,row,h1,h2,h3,h4,h5,h6,h7⟩
 ·have hg:kvs.find? (fun r=>ZV r == some k)=none:=List.find?_eq_none.2 fun r hr=>by simpa using h2 r hr
  refine ⟨_,.slice none 0 0,none,[],?_,hole (X d) (fun _=>.inl rfl) rfl (fun _ _ _ _ _ _=>rfl),.inl ⟨[],World.ownsRow_nil _ 0 et _,rfl,by simp,by simp,by simp,by simp⟩,by simp [Zas,JJ,hg],by simp⟩
  rw [hv]
  simp [Instr.lookup,run_underlying hT,MapKept.run_getObj_map hb,MapKept.run_checkKey hkt (JP k),MapKept.run_findKey hkt h1,hz,Result.andThen]
 ·obtain ⟨z,ys,k3,k2⟩:=hmo b es clock kvs [] et het hX hb rfl j en row h2 h3 (by simp)
  refine ⟨_,en.val,X d (j+1),ys,?_,hole (fun q=>if q=j+1 then none else X d q) (fun q=>by by_cases hq:q=j+1;exact .inr (if_pos hq);exact .inl (if_neg hq)) (if_neg (by omega)) (fun i en' row' g1 g2 g3=>if_neg fun hij=>?_),k2,?_,fun b1 hb1=>⟨(h.ours d _ b1 hb1).2,fun i j' hij=>?_⟩⟩
  ·rw [hv]
   simp [Instr.lookup,run_underlying hT,MapKept.run_getObj_map hb,MapKept.run_checkKey hkt (JP k),MapKept.run_findKey hkt h1,Result.andThen]
  ·have:i=j:=by omega
   subst this
   rw [h3] at g2
   cases g2
   exact g3 h5
  ·simp only [Zas,JJ,h6,k3,ZjU]
  ·by_cases hid:i=d
   ·subst hid
    rw [Zp] at hij
    split at hij
    ·cases hij
    ·rename_i hne
     exact hne (h.dist i j' i (j+1) b1 hij hb1).2
   ·rw [Zk X _ hid] at hij
    exact hid (h.dist i j' d (j+1) b1 hij hb1).1
theorem Sim.mapFill {c:Ctx} {σ:Nat→AV} {tm:Array Value} {w:World} {lim:Nat→Nat} {X:Nat→Nat→Option Nat} (h:Sim c σ tm w lim X) {d:Nat} {e et:TypeId} {kvs:List (List AV)} {tl:List AV} (k:Int) (hd:σ d = .own true e [.slice false 2 kvs::tl]) (h0:c.P.cellsOf e=0) (het:Jj c.P (e-1048576)=some et) {T kt vt:TypeId}
  (hT:c.P.underlying T=some (.map kt vt)) (hkt:c.P.underlying kt=some (.int .i64)) (htl:∀ x∈tl,x = .val (.int .i64 k)) {v:Value} {ob:Option Nat} {ys:List (List AV)} (hv:ZQ c.P w lim false et ys v ob)
  (ho:∀ b,ob=some b→(c.A b∨c.w0.heap.size≤b)∧∀ i j,X i j≠some b) :
  ∃ w' X',(Instr.mapUpdate T (tm.getD d undef) (.int .i64 k) v).run c.P w = .ok () w'∧Sim c (upd σ d (.own true e (Zc1 [.slice false 2 kvs::tl] k (c.P.cellsOf et) ys))) tm w' lim X':=by
 obtain ⟨hm,b,es,clock,hX,hvd,hb,hlb,hl,hs,et',het',hr⟩:=Zdj h hd h0 (by rw [het];rfl)
 rw [het] at het'
 cases het'
 have hdn:d < c.nt:=by
  rcases Nat.lt_or_ge d c.nt with hlt | hge
  ·exact hlt
  ·have:=h.out d hge;rw [hd] at this;rcases this with h0 | h0<;>cases h0
 have hmo:=h.mp d e _ hd hm
 obtain ⟨hkeys,hfind⟩:=ZdH hl hs hr k
 have hvr:=ZQ.rep hv false rfl
 -- the new entries and rows
 have fill:∀ (j:Nat) (es':Array MapEntry) (clock':Nat) (kvs':List (List AV)),es'.size=kvs'.length→Stamped es' clock'→(∃ en,es'[j]? = some en∧en.key = .int .i64 k∧en.val=v)→(∃ row,kvs'[j]? = some row∧row = [.val (.int .i64 k),.slice false (c.P.cellsOf et) ys])→
   (∀ (i:Nat) (en:MapEntry) (row:List AV),i≠j→es'[i]? = some en→kvs'[i]? = some row→es[i]? = some en∧kvs[i]? = some row∧ZV row≠some k)→
   Sim c (upd σ d (.own true e [[.slice false 2 kvs']])) tm (YR w b (.map es' clock')) lim (KH X d fun q=>if q=j+1 then ob else X d q):=by
  intro j es' clock' kvs' g1 g2 g3 g4 g5
  obtain ⟨en0,g31,g32,g33⟩:=g3
  obtain ⟨row0,g41,g42⟩:=g4
  have hstep:=Zap (es':=es') (clock':=clock') hb hlb
  have hrows:∀ (i:Nat) (en:MapEntry) (row:List AV),es'[i]? = some en→kvs'[i]? = some row→Zdi c.P (YR w b (.map es' clock')) lim et en row:=by
   intro i en row m1 m2
   by_cases hij:i=j
   ·subst hij
    rw [g31] at m1
    rw [g41] at m2
    cases m1
    cases m2
    exact ⟨k,ys,g42,g32,by rw [g33];exact hvr.mono hstep.ext⟩
   ·obtain ⟨n1,n2,_⟩:=g5 i en row hij m1 m2
    obtain ⟨z,zs,p1,p2,p3⟩:=hr i en row n1 n2
    exact ⟨z,zs,p1,p2,p3.mono hstep.ext⟩
  have hsplit:∀ q b',(if q=j+1 then ob else X d q)=some b'→(q=j+1∧ob=some b')∨(q≠j+1∧X d q=some b'):=fun q b' hq=>by
   by_cases hqj:q=j+1
   ·rw [if_pos hqj] at hq;exact .inl ⟨hqj,hq⟩
   ·rw [if_neg hqj] at hq;exact .inr ⟨hqj,hq⟩
  have hobb:ob≠some b:=fun hc=>(ho b hc).2 d 0 hX
  refine h.putRow (hns:=fun k1 e1 xs1 b1 m1 m2 _=>by
   cases k1 with
   | zero =>
    simp only [ZX,Option.some.injEq,Prod.mk.injEq] at m1
    rw [← m1.1,Kb het] at m2
    cases m2
   | succ k1 => simp [ZX] at m1) (S := fun b' => b' = b) (fun q => if q = j + 1 then ob else X d q) hstep (fun b' hb' => ⟨0, by rw [hb']; exact hX⟩) hdn rfl (fun _ _ => rfl) (.inl fun cs hcs => by rw [hd] at hcs; cases hcs) (fun i q hi hq => ⟨?_, ?_, fun b' hb' => ?_⟩) ?_
   (fun q b' hq=>?_) (fun q q' b' hq hq'=>?_) rfl ?_
  ·intro e1 xs1 hoa
   rw [hd] at hoa
   cases q with
   | zero => simp only [Zo, Option.some.injEq, Prod.mk.injEq] at hoa; obtain ⟨rfl, rfl⟩ := hoa; exact ⟨_, rfl, rfl⟩
   | succ q => cases hoa
  ·obtain ⟨p,hp⟩:=Y7 h hq
   rw [hd] at hp
   cases q with
   | zero => exact if_neg (by omega)
   | succ q => cases hp
  ·by_cases hbb:b'=b
   ·subst hbb
    refine ⟨fun arr t m=>?_,fun es1 clock1 _=>⟨es',clock',YE hb⟩⟩
    rw [hb] at m;cases m
   ·exact .of (JK hbb)
  ·show ZQ c.P _ lim true e _ _ (KH X d _ d 0)
   rw [Zp]
   refine .inr (.inr ⟨rfl,.inl ⟨hm,b,es',clock',kvs',et,het,?_,hvd,YE hb,hlb,⟨_,rfl⟩,g1,g2,hrows⟩⟩)
   rw [if_neg (by omega)]
   exact hX
  ·rcases hsplit q b' hq with ⟨_,h1⟩ | ⟨_,h1⟩
   ·refine ⟨Nat.lt_of_lt_of_le ?_ hstep.size,(ho b' h1).1,fun i jj _ hx=>(ho b' h1).2 i jj hx⟩
    have:=hv
    rw [h1] at this
    exact this.lt
   ·exact ⟨Nat.lt_of_lt_of_le (h.ours d q b' h1).1 hstep.size,(h.ours d q b' h1).2,fun i jj hij hx=>hij (h.dist i jj d q b' hx h1).1⟩
  ·rcases hsplit q b' hq with ⟨h1,h2⟩ | ⟨_,h2⟩ <;> rcases hsplit q' b' hq' with ⟨h3,h4⟩ | ⟨_,h4⟩
   ·omega
   ·exact ((ho b' h2).2 d q' h4).elim
   ·exact ((ho b' h4).2 d q h2).elim
   ·exact (h.dist d q d q' b' h2 h4).2
  ·intro e1 xs1 he
   injection he with _ h1 h2
   subst h1
   intro _ b1 es1 clock1 kvs1 tl1 et1 m0 m1 m2 m3 i en row m4 m5 m6
   rw [het] at m0
   cases m0
   have m1':X d 0=some b1:=by have:=m1;dsimp only at this;rwa [if_neg (by omega)] at this
   rw [hX] at m1'
   cases m1'
   rw [YE hb] at m2
   cases m2
   rw [← h2] at m3
   simp only [List.cons.injEq,AV.slice.injEq,true_and,and_true] at m3
   obtain ⟨rfl,rfl⟩:=m3
   by_cases hij:i=j
   ·subst hij
    rw [g31] at m4
    rw [g41] at m5
    cases m4
    cases m5
    refine ⟨k,ys,g42,?_⟩
    show ZQ c.P _ lim false et ys en0.val (if i+1=i+1 then ob else X d (i+1))
    rw [if_pos rfl,g33]
    exact hv.mono hstep.ext fun b1 hb1=>⟨JK fun hc=>hobb (by rw [hb1,hc]),rfl⟩
   ·obtain ⟨n1,n2,n3⟩:=g5 i en row hij m4 m5
    obtain ⟨z,zs,p1,p2⟩:=hmo b es clock kvs tl et het hX hb rfl i en row n1 n2 (fun x hx hc=>by
     rw [htl x hx] at hc
     cases row with
     | nil => cases hc
     | cons y row => simp only [List.head?_cons, Option.some.injEq] at hc; subst hc; exact n3 rfl)
    refine ⟨z,zs,p1,?_⟩
    show ZQ c.P _ lim false et zs en.val (if i+1=j+1 then ob else X d (i+1))
    rw [if_neg (by omega)]
    exact p2.mono hstep.ext fun b1 hb1=>⟨JK fun hc=>by subst hc;have:=(h.dist d (i+1) d 0 b1 hb1 hX).2;omega,rfl⟩
 rcases hfind with ⟨h1,h2,h3⟩ | ⟨j,en,row,h1,h2,h3,h4,h5,h6,h7⟩
 ·refine ⟨YR w b (.map (es.push ⟨.int .i64 k,v,clock⟩) (clock+1)),KH X d (fun q=>if q=es.size+1 then ob else X d q),?_,?_⟩
  rotate_left
  ·have:=fill es.size (es.push ⟨.int .i64 k,v,clock⟩) (clock+1) (kvs++[[.val (.int .i64 k),.slice false (c.P.cellsOf et) ys]]) (by simp [hl]) (stamped_push hs h2) ⟨⟨.int .i64 k,v,clock⟩,by simp,rfl,rfl⟩ ⟨[.val (.int .i64 k),.slice false (c.P.cellsOf et) ys],by rw [hl];simp,rfl⟩ (fun i en row hi m1 m2=>?_)
   ·simp only [Zc1,JJ,ZjC h3]
    exact this
   ·have hlt:i < es.size:=by
     have:=(Array.getElem?_eq_some_iff.1 m1).1
     simp at this
     omega
    rw [Array.getElem?_push,if_neg (by omega)] at m1
    rw [List.getElem?_append_left (by omega)] at m2
    exact ⟨m1,m2,h3 row (List.mem_of_getElem? m2)⟩
  ·rw [hvd]
   simp [Instr.mapUpdate,run_underlying hT,MapKept.run_getObj_map hb,MapKept.run_checkKey hkt (JP k),MapKept.run_findKey hkt h1,MapKept.run_setObj_map _ hb,Result.andThen,YR]
 ·have hj:es[j]? = some en:=h2
  have hjl:j < es.size:=(Array.getElem?_eq_some_iff.1 h2).1
  have hkeyf:∀ e',es[j]? = some e'→({ e' with key:=.int .i64 k,val:=v } : MapEntry).key=e'.key:=fun e' he'=>by rw [hj] at he';cases he';exact h4.symm
  refine ⟨YR w b (.map (es.modify j fun e'=>{ e' with key:=.int .i64 k,val:=v }) clock),KH X d (fun q=>if q=j+1 then ob else X d q),?_,?_⟩
  rotate_left
  ·have:=fill j (es.modify j fun e'=>{ e' with key:=.int .i64 k,val:=v }) clock (Kw kvs k (.slice false (c.P.cellsOf et) ys)) (by rw [Array.size_modify,hl,Zgq h3 h5]) (stamped_modify hs _ _ (fun _ _=>rfl) (fun e' _ he'=>hkeyf e' he')) ⟨{ en with key:=.int .i64 k,val:=v },by simp [Array.getElem?_modify,hj],rfl,rfl⟩ ?_ (fun i en' row' hi m1 m2=>?_)
   ·simp only [Zc1,JJ]
    exact this
   ·have hlen:=Zgq (cl:=.slice false (c.P.cellsOf et) ys) h3 h5
    have hjk:j < (Kw kvs k (.slice false (c.P.cellsOf et) ys)).length:=by omega
    have:=Zet (cl:=.slice false (c.P.cellsOf et) ys) h3 h5 h7 j _ (List.getElem?_eq_getElem hjk)
    rw [if_pos rfl] at this
    exact ⟨_,List.getElem?_eq_getElem hjk,this⟩
   ·have m3:=Zet h3 h5 h7 i row' m2
    rw [if_neg hi] at m3
    rw [Array.getElem?_modify,if_neg (by omega)] at m1
    exact ⟨m1,m3⟩
  ·rw [hvd]
   simp [Instr.mapUpdate,run_underlying hT,MapKept.run_getObj_map hb,MapKept.run_checkKey hkt (JP k),MapKept.run_findKey hkt h1,hj,h4,MapKept.run_keyThatStays (JP k),MapKept.run_setObj_map _ hb,Result.andThen,YR]
theorem VL {P:Program} {T et:TypeId} (h:Jj P T=some et):∃ kt vt,P.underlying T=some (.map kt vt)∧P.underlying kt=some (.int .i64)∧P.underlying vt=some (.slice et):=by
 unfold Jj at h
 split at h
 ·rename_i kt vt hT
  split at h
  ·rename_i et' h1 h2
   cases h
   exact ⟨kt,vt,hT,h1,h2⟩
  ·cases h
 ·cases h
theorem ZhN {P:Program} {T kt vt:TypeId} (hT:P.underlying T=some (.map kt vt)) (h:Zo9 P T=true) (w:World):(zeroValue vt).run P w = .ok (.slice none 0 0) w:=by
 unfold Zo9 at h
 rw [hT] at h
 dsimp only at h
 split at h
 ·rename_i i hi
  split at h
  ·rename_i hz
   simp [zeroValue,typeInfo,run_program,hi,hz]
  ·cases h
 ·cases h
theorem Zf5 {w:World} {lim:Nat→Nat} (o:Obj) (S:Nat→Prop):ZN w lim (w.alloc o) (fun b=>if b=w.heap.size then 0 else lim b) S where
 os:=rfl
 tape:=rfl
 output:=rfl
 size:=by simp
 frz a ha:=by
  unfold World.frozen?
  rw [heap_alloc_old w o ha]
 blk b hb _:=⟨heap_alloc_old w o hb,if_neg (by omega)⟩
 ext b hb:=⟨by show lim b≤if b=w.heap.size then 0 else lim b;rw [if_neg (by omega)];exact Nat.le_refl _,fun o' u _ hu=>by
  unfold World.cell? at hu ⊢
  rw [heap_alloc_old w o hb]
  exact hu⟩
theorem Zfe {P:Program} {o:Oper} {σ:Nat→AV} {T et:TypeId} (ho:o.op = .makeMap T none) (hT:Jj P T=some et):JA P o σ (.own true (T+1048576) [[.slice false 2 []]]) [] []:=by
 intro c hc σ' tm w lim X hid hag hsim next Q hn
 have hstep:=Zf5 (w:=w) (lim:=lim) (.map #[] 0) (fun _=>False)
 have hw2:=hsim.world hstep fun _ hs=>hs.elim
 have hnew:(w.alloc (.map #[] 0)).heap[w.heap.size]? = some (.map #[] 0):=heap_alloc_new w _
 refine Zq (v:=.map (some w.heap.size)) (w':=w.alloc (.map #[] 0)) ?_ (hn _ _ (Z8 (ob:=some w.heap.size) hw2 (.inr (.inr ⟨rfl,.inl ⟨by simp [Zm],w.heap.size,#[],0,[],et,by rw [Nat.add_sub_cancel,hc];exact hT,rfl,rfl,hnew,if_pos rfl,⟨_,rfl⟩,rfl,stamped_empty 0,fun i en row h=>by simp at h⟩⟩)) (fun b hb=>?_) (fun _=>.mv (.inr (.inr (.inl rfl)))) fun _ hd=>by rw [Kb (et:=et) (by rw [Nat.add_sub_cancel,hc];exact hT)] at hd;cases hd))
 ·have hr:(Instr.makeMap T none).run P w = .ok (.map (some w.heap.size)) (w.alloc (.map #[] 0)):=rfl
  simp only [execOp,ho,Option.map_none,hr,Sem.run_bind,Result.andThen_ok,Sem.run_pure]
 ·cases hb
  exact ⟨.inr hsim.frm.size,fun i j=>YT hsim i j⟩
theorem ZgX {P:Program} {o:Oper} {σ:Nat→AV} {T et e:TypeId} {m kx:Operand} {d:Nat} {kvs:List (List AV)} {tl:List AV} {k:Int} (ho:o.op = .lookup T m kx false) (hT:Jj P T=some et) (hz:Zo9 P T=true) (hm:Zr P σ m = .mref d 0) (hd:σ d = .own true e [.slice false 2 kvs::tl]) (h0:P.cellsOf e=0) (he:e=T+1048576)
  (hk:Zr P σ kx = .val (.int .i64 k)):JA P o σ (.slice false (P.cellsOf et) (Zas [.slice false 2 kvs::tl] k)) [] [d]:=by
 refine ZE [d] rfl fun c hc σ' tm w lim X hg hfp hsim=>?_
 rw [ho] at hg
 have hv:=J0 hc hsim hm (hg m (by simp [Op.operands]))
 have hkv:=Z1 hc hsim hk (hg kx (by simp [Op.operands]))
 have hd':σ' d = .own true e [.slice false 2 kvs::tl]:=by rw [hfp d (by simp),hd]
 rw [← hc] at hv
 have hmv:=Wn hsim hd' (by rw [hc];exact h0) (by rw [he,Nat.add_sub_cancel,hc,hT];rfl) hv
 obtain ⟨_,b,es,clock,hX,hvd,hb,hlb,hl,hs,et',het',hr⟩:=Zdj hsim hd' (by rw [hc];exact h0) (by rw [he,Nat.add_sub_cancel,hc,hT];rfl)
 rw [he,Nat.add_sub_cancel,hc,hT] at het'
 cases het'
 rw [hc] at hr
 obtain ⟨kt,vt,hT1,hkt,hvt⟩:=VL hT
 obtain ⟨_,hfind⟩:=ZdH hl hs hr k
 have hzr:=ZhN hT1 hz w
 rcases hfind with ⟨h1,_,h2⟩ | ⟨j,en,row,h1,h2,h3,h4,h5,h6,h7⟩
 ·have hgn:kvs.find? (fun r=>ZV r == some k)=none:=List.find?_eq_none.2 fun r hr=>by simpa using h2 r hr
  refine ⟨.slice none 0 0,?_,?_⟩
  ·simp [execOp,ho,hmv,hvd,hkv,Instr.lookup,run_underlying hT1,MapKept.run_getObj_map hb,MapKept.run_checkKey hkt (JP k),MapKept.run_findKey hkt h1,hzr,Result.andThen]
  ·simp only [Zas,JJ,hgn]
   exact .sliceN
 ·obtain ⟨z,ys,p1,p2,p3⟩:=hr j en row h2 h3
  refine ⟨en.val,?_,?_⟩
  ·simp [execOp,ho,hmv,hvd,hkv,Instr.lookup,run_underlying hT1,MapKept.run_getObj_map hb,MapKept.run_checkKey hkt (JP k),MapKept.run_findKey hkt h1,Result.andThen]
  ·simp only [Zas,JJ,h6,p1,ZjU]
   exact p3
theorem ZaK {P:Program} {o:Oper} {σ:Nat→AV} {T et e:TypeId} {m kx:Operand} {d:Nat} {kvs:List (List AV)} {k:Int} (ho:o.op = .lookup T m kx false) (hT:Jj P T=some et) (hz:Zo9 P T=true) (hm:Zr P σ m = .mref d 0) (hd:σ d = .own true e [[.slice false 2 kvs]]) (h0:P.cellsOf e=0) (he:e=T+1048576)
  (hk:Zr P σ kx = .val (.int .i64 k)):JA P o σ (.own false et (Zas [[.slice false 2 kvs]] k)) [(d,.own true e (Zb5 [[.slice false 2 kvs]] k))] []:=by
 intro c hc σ' tm w lim X hid hag hsim next Q hn
 have hg:∀ y∈o.op.operands,Zr P σ' y=Zr P σ y:=fun y hy=>ZA fun t ht=>hid t (by simp [Zt hy ht])
 rw [ho] at hg
 have hv:=J0 hc hsim hm (hg m (by simp [Op.operands]))
 have hkv:=Z1 hc hsim hk (hg kx (by simp [Op.operands]))
 have hd':σ' d = .own true e [[.slice false 2 kvs]]:=by rw [hag d (by simp),hd]
 rw [← hc] at hv
 have hmv:=Wn hsim hd' (by rw [hc];exact h0) (by rw [he,Nat.add_sub_cancel,hc,hT];rfl) hv
 obtain ⟨kt,vt,hT1,hkt,hvt⟩:=VL hT
 obtain ⟨X',v,ob,ys,r1,r2,r3,r4,r5⟩:=hsim.mapTake (et:=et) k hd' (by rw [hc];exact h0) (by rw [he,Nat.add_sub_cancel,hc];exact hT) (by rw [hc];exact hT1) (by rw [hc];exact hkt) (by rw [hc];exact ZhN hT1 hz w)
 rw [hc] at r1
 subst r4
 refine Zq (v:=v) (w':=w) ?_ (hn v w (Z8 r2 r3 r5 (fun h=>by cases h) fun h=>by cases h))
 simp only [execOp,ho,hmv,hkv,r1,Sem.run_bind,Result.andThen_ok,Sem.run_pure]
theorem ZgE {P:Program} {o:Oper} {σ:Nat→AV} {T et e:TypeId} {m kx:Operand} {d t:Nat} {kvs ys:List (List AV)} {tl:List AV} {k:Int} (ho:o.op = .insert T m kx (.tmp t)∨o.op = .mapUpdate T m kx (.tmp t)) (hT:Jj P T=some et) (hm:Zr P σ m = .mref d 0) (hd:σ d = .own true e [.slice false 2 kvs::tl]) (h0:P.cellsOf e=0) (he:e=T+1048576)
  (hk:Zr P σ kx = .val (.int .i64 k)) (htl:∀ x∈tl,x = .val (.int .i64 k)) (ht:σ t = .own false et ys):JA P o σ .dead [(t,.slice false (P.cellsOf et) ys),(d,.own true e (Zc1 [.slice false 2 kvs::tl] k (P.cellsOf et) ys))] []:=by
 intro c hc σ' tm w lim X hid hag hsim next Q hn
 have hg:∀ y∈o.op.operands,Zr P σ' y=Zr P σ y:=fun y hy=>ZA fun t ht=>hid t (by simp [Zt hy ht])
 have hgm:=hg m (by rcases ho with ho | ho<;>rw [ho]<;>simp [Op.operands])
 have hgk:=hg kx (by rcases ho with ho | ho<;>rw [ho]<;>simp [Op.operands])
 have hv:=J0 hc hsim hm hgm
 have hkv:=Z1 hc hsim hk hgk
 have hd':σ' d = .own true e [.slice false 2 kvs::tl]:=by rw [hag d (by simp),hd]
 have ht':σ' t = .own false et ys:=by rw [hag t (by simp),ht]
 have htd:t≠d:=fun h=>by rw [h,hd'] at ht';cases ht'
 rw [← hc] at hv
 have hmv:=Wn hsim hd' (by rw [hc];exact h0) (by rw [he,Nat.add_sub_cancel,hc,hT];rfl) hv
 obtain ⟨kt,vt,hT1,hkt,hvt⟩:=VL hT
 obtain ⟨f1,f2,f3⟩:=hsim.free ht' (hsim.noRefs fun q=>by rw [ht'];cases q<;>rfl)
 have hd2:upd σ' t (Vn c.P false et ys) d = .own true e [.slice false 2 kvs::tl]:=by rw [Zf _ _ (Ne.symm htd)];exact hd'
 obtain ⟨w',X',r1,r2⟩:=f1.mapFill (et:=et) k hd2 (by rw [hc];exact h0) (by rw [he,Nat.add_sub_cancel,hc];exact hT) (by rw [hc];exact hT1) (by rw [hc];exact hkt) htl f2 f3
 rw [hc] at r1
 refine JQ (w':=w') ?_ (hn undef w' ?_)
 ·have hev:Act.eval ⟨tm,[]⟩ (.tmp t)=tm.getD t undef:=rfl
  rcases ho with ho | ho<;>simp only [execOp,ho,hmv,hkv,hev,r1,Sem.run_bind,Result.andThen_ok,Sem.run_pure]
 ·rw [← hc]
  exact Zy r2 rfl (k:=0) trivial
theorem Zbu {P:Program} {o:Oper} {σ:Nat→AV} {T et e:TypeId} {m kx vx:Operand} {d s:Nat} {kvs:List (List AV)} {tl:List AV} {k:Int} (ho:o.op = .insert T m kx vx∨o.op = .mapUpdate T m kx vx) (hT:Jj P T=some et) (hm:Zr P σ m = .mref d 0) (hd:σ d = .own true e [.slice false 2 kvs::tl]) (h0:P.cellsOf e=0) (he:e=T+1048576)
  (hk:Zr P σ kx = .val (.int .i64 k)) (htl:∀ x∈tl,x = .val (.int .i64 k)) (hvx:Zr P σ vx = .slice true s []):JA P o σ .dead [(d,.own true e (Zc1 [.slice false 2 kvs::tl] k (P.cellsOf et) []))] []:=by
 intro c hc σ' tm w lim X hid hag hsim next Q hn
 have hg:∀ y∈o.op.operands,Zr P σ' y=Zr P σ y:=fun y hy=>ZA fun t ht=>hid t (by simp [Zt hy ht])
 have hgm:=hg m (by rcases ho with ho | ho<;>rw [ho]<;>simp [Op.operands])
 have hgk:=hg kx (by rcases ho with ho | ho<;>rw [ho]<;>simp [Op.operands])
 have hgv:=hg vx (by rcases ho with ho | ho<;>rw [ho]<;>simp [Op.operands])
 have hv:=J0 hc hsim hm hgm
 have hkv:=Z1 hc hsim hk hgk
 have hvv:Rep w lim (.slice true s []) (Act.eval ⟨tm,[]⟩ vx):=J0 hc hsim hvx hgv
 have hd':σ' d = .own true e [.slice false 2 kvs::tl]:=by rw [hag d (by simp),hd]
 rw [← hc] at hv
 have hmv:=Wn hsim hd' (by rw [hc];exact h0) (by rw [he,Nat.add_sub_cancel,hc,hT];rfl) hv
 obtain ⟨kt,vt,hT1,hkt,hvt⟩:=VL hT
 have hown:ZQ c.P w lim false et [] (Act.eval ⟨tm,[]⟩ vx) none:=by
  generalize Act.eval ⟨tm,[]⟩ vx=v at hvv
  cases hvv with
  | sliceN => exact .inl ⟨[], World.ownsRow_nil _ 0 et _, rfl, by simp, by simp, by simp, by simp⟩
  | sliceE hf => rw [hf rfl]; exact .inr (.inl ⟨rfl, rfl, _, rfl⟩)
  | sliceC hs1 hc1 hf1 hle1 hl1 hus1 hcl1 h1 => rw [hf1 rfl]; exact .inr (.inl ⟨rfl, rfl, _, rfl⟩)
 obtain ⟨w',X',r1,r2⟩:=hsim.mapFill (et:=et) k hd' (by rw [hc];exact h0) (by rw [he,Nat.add_sub_cancel,hc];exact hT) (by rw [hc];exact hT1) (by rw [hc];exact hkt) htl hown (fun b hb=>by cases hb)
 rw [hc] at r1
 refine JQ (w':=w') ?_ (hn undef w' ?_)
 ·rcases ho with ho | ho<;>simp only [execOp,ho,hmv,hkv,r1,Sem.run_bind,Result.andThen_ok,Sem.run_pure]
 ·rw [← hc]
  exact Zy r2 rfl (k:=0) trivial
def ZnE (x:MapEntry):Int:=match x.key with | .int _ z=>z | _=>0
def WI (P:Program) (ks:List (FuncId×FuncId×FuncId)):Prop:=
 ∀ p∈ks,Callable P p.1∧Callable P p.2.1∧
  (∀ (b:Nat) (w:World),Calls P p.1 #[.map (some b)] w fun e w'=>e = .returned (.func (.func p.2.2) #[] #[.pointer (some ⟨w.heap.size,0,none⟩)])∧∃ T,w'=w.alloc (.cells #[.map (some b)] T))∧
  ∀ (w:World) (B b:Nat) (es:Array MapEntry) (clock:Nat),w.cell? ⟨B,0,none⟩=some (.map (some b))→w.heap[b]? = some (.map es clock)→Stamped es clock→es.size≤1048576→
   (∀ x∈es.toList,∃ z:Int,x.key = .int .i64 z∧-9223372036854775808≤z∧z≤9223372036854775807)→
   Calls P p.2.1 #[.func (.func p.2.2) #[] #[.pointer (some ⟨B,0,none⟩)]] w fun e w'=>∃ v et,e = .returned v∧
    w'.ownsRow w.heap.size et 1 v es.size (((es.toList.map ZnE).mergeSort fun x y=>decide (x≤y)).map (Value.int .i64))∧Below w.heap.size w w'
theorem ZbE {w w':World} {lim:Nat→Nat} {N:Nat} (h:Below w.heap.size w w') (S:Nat→Prop):ZN w lim w' (fun b=>if b < w.heap.size then lim b else N) S where
 os:=h.os
 tape:=h.tape
 output:=h.output
 size:=h.size
 frz a ha:=by
  unfold World.frozen?
  rw [h.block _ ha]
 blk b hb _:=⟨h.block b hb,if_pos hb⟩
 ext b hb:=⟨by dsimp only;rw [if_pos hb];exact Nat.le_refl _,fun o' u _ hu=>by
  unfold World.cell? at hu ⊢
  rw [h.block b hb]
  exact hu⟩
theorem ZaU {P:Program} {o:Oper} {cl:Call} {f:FuncId} {x:Operand} {tm:Array Value} {w:World} {v:Value} (ho:o.op = .call cl) (hcl:cl.callee = .value (.func f)) (hargs:cl.args.toList = [x]) (hf:Callable P f) (hv:Act.eval ⟨tm,[]⟩ x=v) :
  (execOp (Act.eval ⟨tm,[]⟩) o).run P w = .ok (.enter f #[v]) w:=by
 obtain ⟨fn,hfn,hname,hbody⟩:=hf
 have hargs':cl.args = #[x]:=by apply Array.toList_inj.1;rw [hargs]
 have hev:Act.eval ⟨tm,[]⟩ (.func f) = .func (.func f) #[] #[]:=rfl
 simp only [execOp,ho,Sem.run_bind,resolve,hcl,hev,Deferred.ofValue,Sem.run_pure,Result.andThen_ok,hargs',invoke,callFunc,run_program,hfn,hname,hbody]
 simp [hv]
theorem Zky {P:Program} {o:Oper} {σ:Nat→AV} {ks:List (FuncId×FuncId×FuncId)} {p:FuncId×FuncId×FuncId} {cl:Call} {x:Operand} {d:Nat} {e:TypeId} {kvs:List (List AV)} {tl:List AV} (hks:WI P ks) (hp:p∈ks) (ho:o.op = .call cl) (hcl:cl.callee = .value (.func p.1)) (hargs:cl.args.toList = [x])
  (hx:Zr P σ x = .mref d 0) (hd:σ d = .own true e [.slice false 2 kvs::tl]) (h0:P.cellsOf e=0) (hks':(Jj P (e-1048576)).isSome=true):JA P o σ (.eref d 0 p.2.2) [] [d]:=by
 intro c hc σ' tm w lim X hid hag hsim next Q hn
 have hargs':cl.args = #[x]:=by apply Array.toList_inj.1;rw [hargs]
 have hgx:Zr P σ' x=Zr P σ x:=ZA fun t ht=>hid t (Zt (x:=x) (by rw [ho];simp [Op.operands,Call.operands,hcl,hargs']) ht)
 have hv:=J0 hc hsim hx hgx
 have hd':σ' d = .own true e [.slice false 2 kvs::tl]:=by rw [hag d (by simp),hd]
 rw [← hc] at hv
 have hmv:=Wn hsim hd' (by rw [hc];exact h0) (by rw [hc];exact hks') hv
 obtain ⟨hm,b,es,clock,hX,hvd,hb,hlb,hl,hs,et',het',hr⟩:=Zdj hsim hd' (by rw [hc];exact h0) (by rw [hc];exact hks')
 obtain ⟨k1,_,k3,_⟩:=hks p hp
 unfold Oper.wp
 rw [ZaU ho hcl hargs k1 (hmv.trans hvd),Oper.upon_enter]
 refine (k3 b w).mono ?_
 rintro e1 w' ⟨rfl,T,rfl⟩
 refine hn _ _ ?_
 have hstep:ZN w lim (w.alloc (.cells #[.map (some b)] T)) (fun b'=>if b' < w.heap.size then lim b' else 1) (fun _=>False):=ZbE ((Below.refl _ w).alloc (Nat.le_refl _) _) _
 have hw2:=hsim.world hstep fun _ hs=>hs.elim
 refine Zy hw2 rfl (k:=0) ⟨b,e,_,by show Zo (σ' d) 0=_;rw [hd'];rfl,hX,.inr ⟨hm,(by rw [hc];exact Wk hks'),w.heap.size,rfl,?_,?_⟩⟩
 ·show 0 < if w.heap.size < w.heap.size then lim w.heap.size else 1
  rw [if_neg (by omega)]
  exact Nat.one_pos
 ·have:(w.alloc (.cells #[.map (some b)] T)).heap[w.heap.size]? = some (.cells #[.map (some b)] T (0,0)):=heap_alloc_new w _
  simp only [World.cell?,this]
  rfl
theorem Zfs {P:Program} {w:World} {lim:Nat→Nat} {et:TypeId} : ∀ (es:List MapEntry) (kvs:List (List AV)),es.length=kvs.length→(∀ (i:Nat) (en:MapEntry) (row:List AV),es[i]? = some en→kvs[i]? = some row→Zdi P w lim et en row)→kvs.filterMap ZV=es.map ZnE
 | [], [], _, _ => rfl
 | en :: es, row :: kvs, hl, h => by
  obtain ⟨z,ys,h1,h2,_⟩:=h 0 en row rfl rfl
  have hk:ZnE en=z:=by simp [ZnE,h2]
  rw [List.filterMap_cons,h1,WG,List.map_cons,hk,Zfs es kvs (by simpa using hl) fun i e r g1 g2=>h (i+1) e r g1 g2]
 | [], _ :: _, hl, _ => by simp at hl
 | _ :: _, [], hl, _ => by simp at hl
theorem ZbV:∀ (zs:List Int),(zs.map fun z=>[AV.val (.int .i64 z)]).flatten=zs.map fun z=>AV.val (.int .i64 z)
 | [] => rfl
 | z :: zs => by rw [List.map_cons, List.flatten_cons, ZbV zs]; rfl
theorem Zgb {P:Program} {o:Oper} {σ:Nat→AV} {ks:List (FuncId×FuncId×FuncId)} {p:FuncId×FuncId×FuncId} {cl:Call} {x:Operand} {d:Nat} {e:TypeId} {kvs:List (List AV)} (hks:WI P ks) (hp:p∈ks) (ho:o.op = .call cl) (hcl:cl.callee = .value (.func p.2.1)) (hargs:cl.args.toList = [x])
  (hx:Zr P σ x = .eref d 0 p.2.2) (hd:σ d = .own true e [[.slice false 2 kvs]]) (h0:P.cellsOf e=0) (hks':(Jj P (e-1048576)).isSome=true) (hlen:kvs.length≤1048576) (hfine:∀ r∈kvs,Zci r=true):JA P o σ (.slice false 1 (Zb4 [[.slice false 2 kvs]])) [] [d]:=by
 intro c hc σ' tm w lim X hid hag hsim next Q hn
 have hargs':cl.args = #[x]:=by apply Array.toList_inj.1;rw [hargs]
 have hgx:Zr P σ' x=Zr P σ x:=ZA fun t ht=>hid t (Zt (x:=x) (by rw [ho];simp [Op.operands,Call.operands,hcl,hargs']) ht)
 have hv:=J0 hc hsim hx hgx
 have hd':σ' d = .own true e [[.slice false 2 kvs]]:=by rw [hag d (by simp),hd]
 rw [← hc] at hv
 obtain ⟨hm,b,es,clock,hX,hvd,hb,hlb,hl,hs,et',het',hr⟩:=Zdj hsim hd' (by rw [hc];exact h0) (by rw [hc];exact hks')
 obtain ⟨b',e',xs',m1,m2,m3⟩:=hv
 rw [hd'] at m1
 simp only [Zo,Option.some.injEq,Prod.mk.injEq] at m1
 obtain ⟨rfl,rfl⟩:=m1
 rw [hX] at m2
 cases m2
 rcases m3 with ⟨m3 | m3,_⟩ | ⟨_,_,B,hvx,hlB,hcB⟩
 ·rw [hm] at m3;cases m3
 ·rw [hc,Wk hks'] at m3;cases m3
 obtain ⟨_,k2,_,k4⟩:=hks p hp
 unfold Oper.wp
 rw [ZaU ho hcl hargs k2 hvx,Oper.upon_enter]
 have hrow:∀ i (hi:i < es.size),∃ row,kvs[i]? = some row∧Zdi c.P w lim et' es[i] row:=fun i hi=>⟨kvs[i]'(by omega),List.getElem?_eq_getElem _,hr i _ _ (Array.getElem?_eq_getElem hi) (List.getElem?_eq_getElem _)⟩
 refine (k4 w B b es clock hcB hb hs (by omega) fun y hy=>?_).mono ?_
 ·obtain ⟨i,hi,rfl⟩:=List.mem_iff_getElem.1 hy
  have hi':i < es.size:=by simpa using hi
  obtain ⟨row,h1,z,ys,h2,h3,_⟩:=hrow i hi'
  have hf:=hfine row (List.mem_of_getElem? h1)
  rw [h2] at hf
  simp only [Zci,WG,Bool.and_eq_true,decide_eq_true_eq] at hf
  have:es.toList[i]=es[i]:=by simp
  exact ⟨z,by rw [this];exact h3,hf.1,hf.2⟩
 ·rintro e1 w' ⟨v,et,rfl,hown,hbel⟩
  refine hn _ _ ?_
  have hstep:ZN w lim w' (fun b'=>if b' < w.heap.size then lim b' else es.size) (fun _=>False):=ZbE hbel _
  have hw2:=hsim.world hstep fun _ hs=>hs.elim
  refine Zy hw2 rfl (k:=0) ?_
  have hks':kvs.filterMap ZV=es.toList.map ZnE:=Zfs es.toList kvs (by simpa using hl) fun i en row g1 g2=>hr i en row (by simpa using g1) g2
  show Rep w' _ (.slice false 1 (Zb4 [[.slice false 2 kvs]])) v
  have hmk:Zb4 [[.slice false 2 kvs]]=((es.toList.map ZnE).mergeSort fun x y=>decide (x≤y)).map fun z=>[.val (.int .i64 z)]:=by simp only [Zb4,JJ,hks']
  rw [hmk]
  generalize hz:(es.toList.map ZnE).mergeSort (fun x y=>decide (x≤y))=zs at hown
  have hzl:zs.length=es.size:=by rw [← hz];simp
  rcases hown.2 with ⟨rfl,hn0⟩ | ⟨g,cap,cur,rfl,hbg,hg,hnc,hcm,hcs,htake⟩
  ·have:zs = []:=List.eq_nil_of_length_eq_zero (by omega)
   subst this
   exact .sliceN
  ·rw [← hzl] at hnc ⊢
   have hl2:(zs.map fun z=>[AV.val (.int .i64 z)]).length=zs.length:=by simp
   have hfl:(zs.map fun z=>[AV.val (.int .i64 z)]).flatten=zs.map fun z=>AV.val (.int .i64 z):=by
    exact ZbV zs
   have key:=Rep.sliceC (w:=w') (lim:=fun b'=>if b' < w.heap.size then lim b' else zs.length) (full:=false) (s:=1) (xs:=zs.map fun z=>[AV.val (.int .i64 z)]) (b:=g) (o:=0) (cap:=cap) (us:=zs.map (Value.int .i64))
    (fun x hx=>by obtain ⟨z,_,rfl⟩:=List.mem_map.1 hx;rfl) (fun x hx y hy=>by obtain ⟨z,_,rfl⟩:=List.mem_map.1 hx;rw [List.mem_singleton.1 hy];rfl) (fun h=>by cases h) (by rw [hl2];exact hnc)
    (fun _=>by rw [if_neg (by omega)];simp) (by simp) (fun j u hj=>?_) (fun j y u hy hu=>?_)
   ·rw [hl2] at key
    exact key
   ·have hcell:=hown.cells (g:=g) rfl j u hj
    have hadd:(⟨g,0,none⟩:Addr).add j=⟨g,0+j,none⟩:=by unfold Addr.add;split<;>simp_all
    rw [hadd] at hcell
    exact hcell
   ·rw [hfl,List.getElem?_map] at hy
    rw [List.getElem?_map] at hu
    cases hzj:zs[j]? with
    | none => rw [hzj] at hy; cases hy
    | some z =>
     rw [hzj] at hy hu
     cases hy
     cases hu
     exact .val rfl
end Go.AM
end

section
namespace Go.AM
theorem WM {y:AV} {k:Nat} {e e':TypeId} {xs xs':List (List AV)} (h:Zo y k=some (e,xs)) (hg:y.isG=false) :
  Zo (Zn y k true e' xs') k=some (e',xs')∧(∀ q,q≠k→Zo (Zn y k true e' xs') q=Zo y q)∧(∀ q,q≠k→ZX (Zn y k true e' xs') q=ZX y q)∧ZX (Zn y k true e' xs') k=some (e',xs')∧
   (Zn y k true e' xs').isG=false∧(∀ cs,y = .box cs→∃ cs',Zn y k true e' xs' = .box cs'):=by
 rcases Zz h with ⟨rfl,rfl⟩ | ⟨cs,q,rfl,rfl,hq⟩ | ⟨cs,q,rfl,rfl,hq⟩
 case inr.inr=>cases hg
 ·refine ⟨rfl,fun q hq=>?_,fun q hq=>?_,rfl,rfl,fun cs h=>by cases h⟩ <;> (cases q with | zero=>exact (hq rfl).elim | succ q=>rfl)
 ·have hlt:=(List.getElem?_eq_some_iff.1 hq).1
  refine ⟨by simp only [Zn,Zo,List.getElem?_set_self hlt],fun q' hq'=>?_,fun q' hq'=>?_,by simp only [Zn,ZX,List.getElem?_set_self hlt],rfl,fun cs' _=>⟨_,rfl⟩⟩ <;>
   (cases q' with
   | zero => rfl
   | succ q' => simp only [Zn, Zo, ZX]; rw [List.getElem?_set_ne (by omega)])
theorem Sim.deepStep {c:Ctx} {σ:Nat→AV} {tm:Array Value} {w w':World} {lim lim':Nat→Nat} {X:Nat→Nat→Option Nat} (h:Sim c σ tm w lim X) {d k b:Nat} {E E':TypeId} {xs xs':List (List AV)} {Y':Nat→Option Nat}
  (hp:Zo (σ d) k=some (E,xs)) (hng:(σ d).isG=false) (hX:X d k=some b) (hw:ZN w lim w' lim' (fun b'=>b'=b∨∃ j,X (ngN+b) j=some b'))
  (hown:∀ v,ZQ c.P w lim true E xs v (some b)→ZQ c.P w' lim' true E' xs' v (some b)) (hl:xs'.length=xs.length) (hrk:V8 w w' b) (href:E'=E∨∀ i,¬ Je (σ i) d k) (hmo:ZeA c.P w' lim' E' xs' (X d))
  (hY:∀ j b',Y' j=some b'→(∃ j0,X (ngN+b) j0=some b')∨(b' < w'.heap.size∧(c.A b'∨c.w0.heap.size≤b')∧∀ i q,X i q≠some b')) (hYi:∀ j j' b',Y' j=some b'→Y' j'=some b'→j=j')
  (hN:Zg c.P E'=true→VN c.P w' lim' E' xs' b Y') :
  Sim c (upd σ d (Zn (σ d) k true E' xs')) tm w' lim' (KH X (ngN+b) Y'):=by
 obtain ⟨q1,q2,q3,q4,q5,q6⟩:=WM (e':=E') (xs':=xs') hp hng
 have hdf:d < ngN:=by
  rcases Nat.lt_or_ge d ngN with hlt | hge
  ·exact hlt
  ·rw [h.far d hge] at hp;cases hp
 have hdn:d < c.nt:=Yl h (by intro e;rw [e] at hp;cases hp) hng
 have hbl:b < w.heap.size:=(h.ours d k b hX).1
 -- all other blocks are kept
 have kept:∀ i q b',X i q=some b'→¬ (i=d∧q=k)→i≠ngN+b→Zf6 w lim w' lim' b':=fun i q b' hb h1 h2=>hw.blk b' (h.ours i q b' hb).1 fun hs=>by
  rcases hs with rfl | ⟨j,hj⟩
  ·exact h1 (h.dist i q d k b' hb hX)
  ·exact h2 (h.dist i q (ngN+b) j b' hb hj).1
 have hrowd:KH X (ngN+b) Y' d=X d:=Zk X Y' (by omega)
 have hG:∀ i,(σ i).isG=true→i < ngN∧i≠d:=fun i hi=>by
  refine ⟨?_,fun e=>by rw [e,hng] at hi;cases hi⟩
  rcases Nat.lt_or_ge i ngN with hlt | hge
  ·exact hlt
  ·rw [h.far i hge] at hi;cases hi
 have hrow:∀ i,i < ngN→KH X (ngN+b) Y' i=X i:=fun i hi=>Zk X Y' (by omega)
 have hlow:∀ i p,Zo (σ i) p≠none→i < ngN:=fun i p hi=>by
  rcases Nat.lt_or_ge i ngN with hlt | hge
  ·exact hlt
  ·rw [h.far i hge] at hi;exact (hi rfl).elim
 refine ⟨fun i=>?_,h.size,fun i hi=>?_,fun i hi=>?_,fun i p i' p' b' g g'=>?_,fun i p b' g=>?_,h.frm.step hw fun b' hs=>?_,fun i v hv=>?_,fun i e1 xs1 he=>?_,fun i b' hb=>?_,h.ntN,fun i hi=>?_,fun i p e1 xs1 b1 g1 g2 g3=>?_,fun b1 m b' hb=>?_⟩
 ·by_cases hi:i=d
  ·subst hi
   rw [ZC]
   have hr:=h.rel i
   rcases Zz hp with ⟨g1,rfl⟩ | ⟨cs,q,g1,rfl,g2⟩ | ⟨_,_,g1,_⟩
   case inr.inr=>rw [g1] at hng;cases hng
   ·rw [g1] at hr ⊢
    have hr':ZQ c.P w lim true E xs (tm.getD i undef) (X i 0):=hr
    show ZQ c.P w' lim' true E' xs' _ (KH X (ngN+b) Y' i 0)
    rw [hrowd,hX]
    rw [hX] at hr'
    exact hown _ hr'
   ·rw [g1] at hr ⊢
    obtain ⟨b0,arr,t,k1,k2,k3,k4,k5,k6,k7⟩:=(show ZI c.P w lim (X i) cs _ from hr)
    have hk0:=kept i 0 b0 k1 (by omega) (by omega)
    show ZI c.P w' lim' (KH X (ngN+b) Y' i) (cs.set q (.own true E' xs')) _
    rw [hrowd]
    refine ⟨b0,arr,t,k1,k2,hk0.1.trans k3,by rw [List.length_set];exact k4,hk0.2.trans k5,fun x hx=>?_,fun j x u hx hu=>?_⟩
    ·rcases List.mem_or_eq_of_mem_set hx with hx | hx
     ·exact k6 x hx
     ·exact .inr (.inl ⟨_,_,_,hx⟩)
    ·by_cases hj:j=q
     ·subst hj
      rw [List.getElem?_set_self (List.getElem?_eq_some_iff.1 g2).1] at hx
      simp only [Option.some.injEq] at hx
      subst hx
      have hc:ZQ c.P w lim true E xs u (X i (j+1)):=k7 j _ u g2 hu
      show ZQ c.P w' lim' true E' xs' u (X i (j+1))
      rw [hX] at hc ⊢
      exact hown u hc
     ·rw [List.getElem?_set_ne (fun h=>hj h.symm)] at hx
      exact (k7 j x u hx hu).mono hw.ext fun b' hb'=>kept i (j+1) b' hb' (by omega) (by omega)
  ·rw [Zf σ _ hi]
   rcases Nat.lt_or_ge i ngN with hlt | hge
   ·have hm:=(h.rel i).mono hw.ext (fun p b' hb=>kept i p b' hb (fun hh=>hi hh.1) (by omega)) fun d' p b' hr hb=>by
     by_cases hbb:b'=b
     ·subst hbb;exact hrk
     ·have hd':d' < ngN:=by
       obtain ⟨pp,hpp⟩:=Y7 h (.inl hr)
       exact hlow d' p (by rw [hpp];exact fun h=>by cases h)
      exact .of (hw.blk b' (h.ours d' p b' hb).1 fun hs=>by
       rcases hs with e | ⟨j,hj⟩
       ·exact hbb e
       ·have:=(h.dist d' p (ngN+b) j b' hb hj).1;omega).1
    refine hm.chg (hrow i hlt) (fun d' cs hd'=>?_) (fun d' hd'=>?_) fun d' p hr=>?_
    ·by_cases hdd:d'=d
     ·subst hdd
      obtain ⟨cs',hcs⟩:=q6 cs hd'
      exact ⟨⟨cs',by rw [ZC];exact hcs⟩,by rw [hrowd]⟩
     ·have:d' < ngN:=by
       rcases Nat.lt_or_ge d' ngN with hlt | hge
       ·exact hlt
       ·rw [h.far d' hge] at hd';cases hd'
      exact ⟨⟨cs,by rw [Zf σ _ hdd];exact hd'⟩,by rw [hrow d' this]⟩
    ·obtain ⟨g1,g2⟩:=hG d' hd'
     exact ⟨by rw [Zf σ _ g2];exact hd',by rw [hrow d' g1]⟩
    ·obtain ⟨pp,hpp⟩:=Y7 h hr
     have hd':=hlow d' p (by rw [hpp];exact fun h=>by cases h)
     refine ⟨?_,by rw [hrow d' hd']⟩
     by_cases hdd:d'=d
     ·subst hdd
      rw [ZC]
      by_cases hpk:p=k
      ·subst hpk
       rcases href with rfl | href
       ·intro e1 ys hy
        rw [hp] at hy
        simp only [Option.some.injEq,Prod.mk.injEq] at hy
        obtain ⟨rfl,rfl⟩:=hy
        exact ⟨xs',q1,hl⟩
       ·exact (href i hr).elim
      ·intro e1 ys hy
       exact ⟨ys,by rw [q2 p hpk];exact hy,rfl⟩
     ·rw [Zf σ _ hdd];exact Kl.refl _ _
   ·rw [h.far i hge];trivial
 ·by_cases hid:i=d
  ·omega
  ·rw [Zf σ _ hid];exact h.out i hi
 ·by_cases hid:i=d
  ·subst hid;rw [ZC,q5] at hi;cases hi
  ·rw [Zf σ _ hid] at hi;exact h.ghost i hi
 ·by_cases h1:i=ngN+b<;>by_cases h2:i'=ngN+b
  ·subst h1;subst h2
   rw [Zp] at g g'
   exact ⟨rfl,hYi p p' b' g g'⟩
  ·subst h1
   rw [Zp] at g
   rw [Zk X Y' h2] at g'
   rcases hY p b' g with ⟨j0,hj⟩ | ⟨_,_,hno⟩
   ·exact (h2 (h.dist i' p' (ngN+b) j0 b' g' hj).1).elim
   ·exact (hno i' p' g').elim
  ·subst h2
   rw [Zp] at g'
   rw [Zk X Y' h1] at g
   rcases hY p' b' g' with ⟨j0,hj⟩ | ⟨_,_,hno⟩
   ·exact (h1 (h.dist i p (ngN+b) j0 b' g hj).1).elim
   ·exact (hno i p g).elim
  ·rw [Zk X Y' h1] at g
   rw [Zk X Y' h2] at g'
   exact h.dist i p i' p' b' g g'
 ·by_cases h1:i=ngN+b
  ·subst h1
   rw [Zp] at g
   rcases hY p b' g with ⟨j0,hj⟩ | ⟨m1,m2,_⟩
   ·exact ⟨Nat.lt_of_lt_of_le (h.ours _ j0 b' hj).1 hw.size,(h.ours _ j0 b' hj).2⟩
   ·exact ⟨m1,m2⟩
  ·rw [Zk X Y' h1] at g
   exact ⟨Nat.lt_of_lt_of_le (h.ours i p b' g).1 hw.size,(h.ours i p b' g).2⟩
 ·rcases hs with rfl | ⟨j,hj⟩
  ·exact (h.ours d k b' hX).2
  ·exact (h.ours _ j b' hj).2
 ·obtain ⟨g1,cs,g2⟩:=h.pin i v hv
  by_cases hid:i=d
  ·subst hid
   obtain ⟨cs',hcs⟩:=q6 cs g2
   exact ⟨g1,cs',by rw [ZC];exact hcs⟩
  ·exact ⟨g1,cs,by rw [Zf σ _ hid];exact g2⟩
 ·by_cases hid:i=d
  ·subst hid
   rw [ZC] at he
   rw [hrowd]
   have hk0:k=0:=by
    cases k with
    | zero => rfl
    | succ k =>
     rw [he] at q1
     simp [Zo] at q1
   subst hk0
   rw [he] at q1
   simp only [Zo,Option.some.injEq,Prod.mk.injEq] at q1
   obtain ⟨rfl,rfl⟩:=q1
   exact hmo
  ·rw [Zf σ _ hid] at he
   have hif:i < ngN:=by
    rcases Nat.lt_or_ge i ngN with hlt | hge
    ·exact hlt
    ·rw [h.far i hge] at he;cases he
   rw [hrow i hif]
   exact (h.mp i e1 xs1 he).mono hw.ext fun p b' hb=>kept i p b' hb (fun hh=>hid hh.1) (by omega)
 ·obtain ⟨g1,g2⟩:=h.gpin i b' hb
  obtain ⟨m1,m2⟩:=hG i g2
  exact ⟨by rw [hrow i m1];exact g1,by rw [Zf σ _ m2];exact g2⟩
 ·rw [Zf σ _ (by omega)];exact h.far i hi
 ·have hif:i < ngN:=by
   rcases Nat.lt_or_ge i ngN with hlt | hge
   ·exact hlt
   ·rw [Zf σ _ (by omega),h.far i hge] at g1;cases g1
  rw [hrow i hif] at g3
  by_cases hik:i=d∧p=k
  ·obtain ⟨rfl,rfl⟩:=hik
   rw [ZC,q4] at g1
   simp only [Option.some.injEq,Prod.mk.injEq] at g1
   obtain ⟨rfl,rfl⟩:=g1
   rw [hX] at g3
   cases g3
   rw [Zp]
   exact hN g2
  ·have hbb:b1≠b:=fun e=>hik (h.dist i p d k b1 g3 (by rw [e];exact hX))
   rw [Zk X Y' (by omega)]
   have hold:ZX (σ i) p=some (e1,xs1):=by
    by_cases hid:i=d
    ·subst hid
     rw [ZC,q3 p (fun e=>hik ⟨rfl,e⟩)] at g1
     exact g1
    ·rw [Zf σ _ hid] at g1;exact g1
   exact (h.nst i p e1 xs1 b1 hold g2 g3).mono hw.ext (kept i p b1 g3 hik (by omega)).1 fun j b' hb'=>kept _ j b' hb' (fun hh=>by omega) (by omega)
 ·by_cases hbb:b1=b
  ·subst hbb;exact Nat.lt_of_lt_of_le hbl hw.size
  ·rw [Zk X Y' (by omega)] at hb
   exact Nat.lt_of_lt_of_le (h.yfr b1 m b' hb) hw.size
theorem ZN.sub {w:World} {lim:Nat→Nat} {w':World} {lim':Nat→Nat} {S S':Nat→Prop} (h:ZN w lim w' lim' S) (hs:∀ b,S b→S' b):ZN w lim w' lim' S':=
 ⟨h.os,h.tape,h.output,h.size,h.frz,fun b hb hn=>h.blk b hb fun hh=>hn (hs b hh),h.ext⟩
theorem KQ {α:Type} (zs vs:List α) (off:Nat) (h:off+vs.length≤zs.length) (j:Nat):(zs.take off++vs++zs.drop (off+vs.length))[j]? = if off≤j∧j < off+vs.length then vs[j-off]? else zs[j]?:=by
 have l1:(zs.take off).length=off:=by rw [List.length_take];omega
 rw [List.append_assoc]
 rcases Nat.lt_or_ge j off with hlt | hge
 ·rw [List.getElem?_append_left (by omega),List.getElem?_take_of_lt hlt,if_neg (by omega)]
 ·rw [List.getElem?_append_right (by omega),l1]
  rcases Nat.lt_or_ge (j-off) vs.length with hlt | hge'
  ·rw [List.getElem?_append_left hlt,if_pos (by omega)]
  ·rw [List.getElem?_append_right hge',List.getElem?_drop,if_neg (by omega)]
   congr 1
   omega
theorem Zkt {P:Program} {e:TypeId} (h:Zg P e=true):bT e=e-2097152∧2097152≤e:=by
 have h8:2097152≤e:=by simp only [Zg,Bool.and_eq_true,decide_eq_true_eq] at h;exact h.1
 exact ⟨if_pos h8,h8⟩
theorem ZnU {P:Program} {e:TypeId} (h:Zg P (e+2097152)=true):bT (e+2097152)=e:=by
 rw [(Zkt h).1];exact Nat.add_sub_cancel e 2097152
theorem VI {P:Program} {w w':World} {lim lim':Nat→Nat} {E E':TypeId} {xs xs':List (List AV)} {b:Nat} {arr arr':Array Value} (hm:Zm P E=false∨Zg P E=true) (hd:Zff P w E (some b)) (hheap:w.heap[b]? = some (.cells arr (bT E) (0,0))) (hheap':w'.heap[b]? = some (.cells arr' (bT E) (0,0)))
  (hsz:arr'.size=arr.size) (hl:xs'.length=xs.length) (hl0:lim' b=0) (h1:∀ x∈xs',x.length=P.cellsOf (bT E)) (h2:∀ x∈xs',∀ z∈x,z.isCell=true) (h3:∀ (j:Nat) (z:AV) (u:Value),xs'.flatten[j]? = some z→arr'[j]? = some u→Rep w' lim' z u)
  (hE:E'=bT E∨(Zg P E'=true∧bT E'=bT E∧Zm P (bT E)=false)):∀ v,ZQ P w lim true E xs v (some b)→ZQ P w' lim' true E' xs' v (some b):=by
 intro v ho
 obtain ⟨arr0,cap,g1,g2,g3,g4,g5,g6,g7,g8,g9⟩:=Ke ho hm hd
 rw [hheap] at g2
 simp only [Option.some.injEq,Obj.cells.injEq,and_true] at g2
 subst g2
 have key:=KK (P:=P) (w:=w') (lim:=lim') (e:=bT E) (xs:=xs') (cap:=cap) hheap' hl0 (by omega) g5 (by rw [hsz];exact g6) h1 h2 h3
 rw [hl] at key
 rw [g1]
 rcases hE with rfl | ⟨k1,k2,k3⟩
 ·exact key
 ·refine .inr (.inr ⟨rfl,.inr (.inl ⟨k1,by rw [k2];exact k3,?_⟩)⟩)
  rw [k2]
  exact key.noMap k3
theorem KA {c:Ctx} {σ:Nat→AV} {tm:Array Value} {w:World} {lim:Nat→Nat} {X:Nat→Nat→Option Nat} (h:Sim c σ tm w lim X) {d q k p:Nat} {e:TypeId} {xs:List (List AV)} {v:Value}
  (hd:Zo (σ d) q=some (e,xs)) (hv:ZP c.P w lim X σ k (.eref d q p) v) (hnm:Zm c.P e=false∨Zg c.P e=true) :
   ∃ b arr cap,X d q=some b∧v = .pointer (some ⟨b,p,none⟩)∧w.heap[b]? = some (.cells arr (bT e) (0,0))∧lim b=0∧xs.length≤cap∧cap≤maxLen∧
   arr.size=cap*c.P.cellsOf (bT e)∧(∀ x∈xs,x.length=c.P.cellsOf (bT e))∧(∀ x∈xs,∀ c∈x,c.isCell=true)∧∀ (j:Nat) (c:AV) (u:Value),xs.flatten[j]? = some c→arr[j]? = some u→Rep w lim c u:=by
 obtain ⟨b,e',xs',h1,h2,h3⟩:=hv
 rw [hd] at h1
 simp only [Option.some.injEq,Prod.mk.injEq] at h1
 obtain ⟨rfl,rfl⟩:=h1
 obtain ⟨u,ho⟩:=JI h hd
 rw [h2] at ho
 obtain ⟨arr0,cap,g1,g2,g3⟩:=Ke ho hnm (by rw [← h2];exact h.deepB (Z7 hd))
 exact ⟨b,arr0,cap,h2,h3.ptr hnm,g2,g3⟩
theorem Zcq {c:Ctx} {σ:Nat→AV} {tm:Array Value} {w:World} {lim:Nat→Nat} {X:Nat→Nat→Option Nat} (h:Sim c σ tm w lim X) {d q b:Nat} {e:TypeId} {xs:List (List AV)} (hd:Zo (σ d) q=some (e,xs)) (hX:X d q=some b) (hdp:Zg c.P e=true):Zm c.P (bT e)=false:=by
 obtain ⟨u,ho⟩:=JI h hd
 rw [hX] at ho
 rcases ho with ⟨us,k1,k2,_⟩ | ⟨_,h',_⟩ | ⟨_,⟨_,_,_,_,_,et,k1,_⟩ | h' | ⟨_,_,_,_,_,_,⟨_,_,k1⟩,_⟩⟩
 ·exfalso
  rcases k1.2 with ⟨hv,_⟩ | ⟨g,cap,cur,hv,_,hg,_⟩
  ·rw [hv] at k2;cases k2
  ·obtain ⟨arr,ha⟩:=h.deepB (Z7 hd) hdp b hX
   have hgb:g=b:=by rw [hv] at k2;exact Option.some.inj k2
   rw [hgb,ha] at hg
   simp only [Option.some.injEq,Obj.cells.injEq,and_true] at hg
   obtain ⟨m1,m2⟩:=Zkt hdp
   have h9:=hg.2
   rw [m1] at h9
   exact absurd h9 (Nat.ne_of_lt (Nat.sub_lt (Nat.lt_of_lt_of_le (by decide) m2) (by decide)))
 ·cases h'
 ·rw [Kb k1] at hdp;cases hdp
 ·exact h'.2.1
 ·rw [Yg k1] at hdp;cases hdp
def Znv (z:AV):Bool:=match z with | .nest _ _ _ _=>false | _=>true
theorem Zcf {P:Program} {o:Oper} {σ:Nat→AV} {T E:TypeId} {a x:Operand} {d q i off:Nat} {xs:List (List AV)} {vc vc':List AV} {y:AV} (ho:o.op = .store T a x) (ha:Zr P σ a = .eref d q (i*P.cellsOf (bT E)+off)) (hd:Zo (σ d) q=some (E,xs)) (hng:(σ d).isG=false)
  (hx:Zr P σ x=y) (hy:y.cells? = some vc) (hn:vc.length=P.cellsOf T) (h0:P.cellsOf T≠0) (hi:i < xs.length) (hfit:off+P.cellsOf T≤P.cellsOf (bT E))
  (hw:vc'.length=vc.length∧∀ (w:World) (lim:Nat→Nat) (us:List Value),Yf w lim vc us→Yf w lim vc' us) (hnn:∀ z∈vc',Znv z=true) (hdp:Zg P E=true) :
  JA P o σ .dead [(d,Zn (σ d) q true E (Zw xs i off vc'))] [d]:=by
 intro c hc σ' tm w lim X hid hag hsim next Q hnx
 have hga:Zr P σ' a=Zr P σ a:=ZA fun t ht=>hid t (by simp [Zt (o:=o) (x:=a) (by rw [ho];simp [Op.operands]) ht])
 have hgx:Zr P σ' x=Zr P σ x:=ZA fun t ht=>hid t (by simp [Zt (o:=o) (x:=x) (by rw [ho];simp [Op.operands]) ht])
 have hsd:σ' d=σ d:=hag d (by simp)
 have hd':Zo (σ' d) q=some (E,xs):=by rw [hsd,hd]
 have hva:=J0 hc hsim ha hga
 rw [← hc] at hva
 have hdp':Zg c.P E=true:=by rw [hc];exact hdp
 obtain ⟨us,h4,h5⟩:=Vg hy (J0 hc hsim hx hgx)
 obtain ⟨b,arr,cap,g1,h3,g3,g4,g6,g7,g8,g9,g10,g11⟩:=KA hsim hd' hva (.inr hdp')
 have hbm:=Zcq hsim hd' g1 hdp'
 rw [hc] at g8 g9 h3
 obtain ⟨inf,hinf⟩:=ZH h0
 have h5':=hw.2 w lim us h5
 have hlen:us.length=P.cellsOf T:=by rw [← h5.1,hn]
 have hmul:i*P.cellsOf (bT E)+P.cellsOf (bT E)≤xs.length*P.cellsOf (bT E):=by
  rw [← Nat.succ_mul];exact Nat.mul_le_mul_right _ hi
 have hcap:xs.length*P.cellsOf (bT E)≤cap*P.cellsOf (bT E):=Nat.mul_le_mul_right _ g6
 have hmem:=Yz (i:=i) g9 g10 (by rw [hw.1,hn];exact hfit) h5'.2.1
 have hst:=Yy (P:=P) (T:=T) (w:=w) (b:=b) (off:=i*P.cellsOf (bT E)+off) (v:=Act.eval ⟨tm,[]⟩ x) hinf h4 hlen g3 (by rw [hlen,g8];omega) (fun u hu=>by
  obtain ⟨j,hj⟩:=List.mem_iff_getElem?.1 hu
  have hlt:j < vc.length:=by rw [h5.1];exact (List.getElem?_eq_some_iff.1 hj).1
  exact (h5.2.2 j _ u (List.getElem?_eq_getElem hlt) hj).oneCell (h5.2.1 _ (List.getElem_mem hlt)))
 obtain ⟨arr',harr⟩:∃ arr',arr'=(arr.toList.take (i*P.cellsOf (bT E)+off)++us++arr.toList.drop (i*P.cellsOf (bT E)+off+us.length)).toArray:=⟨_,rfl⟩
 have hsz:arr'.size=arr.size:=by rw [harr];simp [g8];omega
 have hstep:=Jc (cs:=arr') g3 g4
 have hfl:=Jt (i:=i) (o:=off) (e:=vc') g9 hi (by rw [hw.1,hn];exact hfit)
 have hxl:=Zl xs _ g9
 have hrep:∀ (j:Nat) (z:AV) (u:Value),(Zw xs i off vc').flatten[j]? = some z→arr'[j]? = some u→Rep w lim z u:=fun j z u hz hu=>by
  rw [hfl] at hz
  rw [harr] at hu
  refine Zea (R:=Rep w lim) (us:=arr.toList) (fun j z u hz hu=>g11 j z u hz (by simpa using hu)) h5'.2.2 (by rw [hw.1,h5.1]) ?_ ?_ j z u hz (by simpa using hu)
  ·rw [hxl];omega
  ·simp [g8];omega
 have hY:∀ j b',X (ngN+b) j=some b'→Zf6 w lim (w.setRow b arr') lim b':=fun j b' hb'=>hstep.blk b' (hsim.ours _ j b' hb').1 fun e=>by
  have hdf:d < ngN:=by
   rcases Nat.lt_or_ge d ngN with hlt | hge
   ·exact hlt
   ·rw [hsim.far d hge] at hd';cases hd'
  have:=(hsim.dist (ngN+b) j d q b' hb' (by rw [e];exact g1)).1
  omega
 have hset:=hsim.deepStep (w':=w.setRow b arr') (lim':=lim) (E':=E) (xs':=Zw xs i off vc') (Y':=X (ngN+b)) hd' (by rw [hsd];exact hng) g1 (hstep.sub fun _ h=>.inl h)
  (VI (.inr hdp') (by rw [← g1];exact hsim.deepB (Z7 hd')) g3 (setRow_heap w b arr arr' _ _ g3) hsz (by simp [Zw]) g4 (fun x hx=>by rw [hc];exact (hmem x hx).1) (fun x hx=>(hmem x hx).2) (fun j z u hz hu=>(hrep j z u hz hu).mono hstep.ext) (.inr ⟨hdp',rfl,hbm⟩))
  (by simp [Zw]) (YG g3 hsz b) (.inl rfl) (.mv (.inr (.inl hdp'))) (fun j b' hb'=>.inl ⟨j,hb'⟩) (fun j j' b' h1 h2=>(hsim.dist _ j _ j' b' h1 h2).2)
  (fun _=>⟨⟨arr',setRow_heap w b arr arr' _ _ g3⟩,fun j s e ys u hz hu=>by
   rw [hfl,KQ _ _ _ (by rw [hxl,hw.1,hn];omega)] at hz
   split at hz
   ·have:=hnn _ (List.mem_of_getElem? hz)
    cases this
   ·rename_i hj
    have hN:=(hsim.nst d q E xs b (Z7 hd') hdp' g1).2
    have hu':w.cell? ⟨b,j,none⟩=some u:=by
     rw [Zs (setRow_heap w b arr arr' _ _ g3),harr] at hu
     rw [Zs g3]
     have hu2:(arr.toList.take (i*P.cellsOf (bT E)+off)++us++arr.toList.drop (i*P.cellsOf (bT E)+off+us.length))[j]? = some u:=by simpa using hu
     rw [KQ _ _ _ (by simp [g8];omega),if_neg (by rw [← h5'.1];exact hj)] at hu2
     simpa using hu2
    obtain ⟨m1,m2,m3⟩:=hN j s e ys u hz hu'
    exact ⟨m1,m2,m3.mono hstep.ext (hY j)⟩⟩)
 rw [hsd] at hset
 refine JQ (w':=w.setRow b arr') ?_ (hnx undef _ ?_)
 ·rw [harr];simp only [execOp,ho,h3,Sem.run_bind,hst,Result.andThen_ok,Sem.run_pure]
 ·exact Zy hset rfl (k:=0) trivial
theorem ZbW {T':Odr} {P:Program} {o:Oper} {σ:Nat→AV} {T E e:TypeId} {a:Operand} {t d q i off:Nat} {xs ys:List (List AV)} {us:List (Nat×AV)} (ho:o.op = .store T a (.tmp t)) (ha:Zr P σ a = .eref d q (i*P.cellsOf (bT E)+off)) (hd:Zo (σ d) q=some (E,xs)) (hng:(σ d).isG=false)
  (ht:σ t = .own true e ys) (hn:P.cellsOf T=1) (hi:i < xs.length) (hfit:off < P.cellsOf (bT E)) (hdp:Zg P E=true) (hem:Zm P e=false) (hus:Yd T' σ t us) (hdt:d≠t) :
  YY T' P o σ .dead (((t,.dead)::us)++[(d,Zn (σ d) q true E (Zw xs i off [.nest (P.cellsOf e) true e ys]))]) [d]:=by
 intro c hc σ' tm w lim X hid hag hT hsim next Q hnx
 have hga:Zr P σ' a=Zr P σ a:=ZA fun t ht=>hid t (by simp [Zt (o:=o) (x:=a) (by rw [ho];simp [Op.operands]) ht])
 have hsd:σ' d=σ d:=hag d (by simp)
 have hd':Zo (σ' d) q=some (E,xs):=by rw [hsd,hd]
 have ht':σ' t = .own true e ys:=by rw [hag t (by simp),ht]
 have hda:=hus.all hT
 have hva:=J0 hc hsim ha hga
 rw [← hc] at hva
 have hdp':Zg c.P E=true:=by rw [hc];exact hdp
 have hem':Zm c.P e=false:=by rw [hc];exact hem
 obtain ⟨b,arr,cap,g1,h3,g3,g4,g6,g7,g8,g9,g10,g11⟩:=KA hsim hd' hva (.inr hdp')
 have hbm:=Zcq hsim hd' g1 hdp'
 rw [hc] at g8 g9 h3
 obtain ⟨inf,hinf⟩:=ZH (P:=P) (T:=T) (by omega)
 have hdf:d < ngN:=by
  rcases Nat.lt_or_ge d ngN with hlt | hge
  ·exact hlt
  ·rw [hsim.far d hge] at hd';cases hd'
 obtain ⟨X1,k1,k2,k3,k4⟩:=hsim.freeAll (us:=us) ht' (.inr hda)
 have hxd:Ju σ' ((t,Vn c.P true e ys)::us) d=σ' d:=by
  refine Zca _ _ _ ?_
  simp only [List.map_cons,List.mem_cons,not_or]
  refine ⟨hdt,fun hm=>?_⟩
  obtain ⟨u,hu,hud⟩:=List.mem_map.1 hm
  obtain ⟨_,_,p,hp⟩:=hda.1 u hu
  rw [hud] at hp
  rcases hp with hp | ⟨_,hp⟩ <;> (rw [hp] at hd';cases hd')
 have hX1:X1 d q=some b:=by
  have hd1:Zo (Ju σ' ((t,Vn c.P true e ys)::us) d) q=some (E,xs):=by rw [hxd];exact hd'
  have hr1:=k1.rel d
  have hr0:=hsim.rel d
  rw [hxd] at hr1
  rcases Zz hd' with ⟨e1,rfl⟩ | ⟨cs,q',e1,rfl,hq'⟩ | ⟨cs,q',e1,rfl,hq'⟩
  ·rw [e1] at hr1 hr0
   have a1:ZQ c.P w lim true E xs _ (X1 d 0):=hr1
   have a0:ZQ c.P w lim true E xs _ (X d 0):=hr0
   rw [g1] at a0
   obtain ⟨arr0,cap0,m1,_⟩:=Ke a0 (.inr hdp') (by rw [← g1];exact hsim.deepB (Z7 hd'))
   rcases a1.one (.inr hdp') (k1.deepB (Z7 hd1)) with ⟨us1,n1,n2,_⟩ | ⟨_,_,a,n3⟩
   ·rw [m1] at n2;exact n2.symm
   ·rw [m1] at n3
    simp only [Value.slice.injEq,Option.some.injEq] at n3
    omega
  ·rw [e1] at hr1 hr0
   obtain ⟨b1,arr1,t1,a1,a2,a3,a4,a5,a6,a7⟩:=(show ZI c.P w lim (X1 d) cs _ from hr1)
   obtain ⟨b2,arr2,t2,c1,c2,c3,c4,c5,c6,c7⟩:=(show ZI c.P w lim (X d) cs _ from hr0)
   have hbb:b1=b2:=by rw [a2] at c2;simpa using c2
   subst hbb
   rw [a3] at c3
   simp only [Option.some.injEq,Obj.cells.injEq,and_true] at c3
   obtain ⟨rfl,_⟩:=c3
   have hlt:=(List.getElem?_eq_some_iff.1 hq').1
   have hu1:arr1[q']? = some (arr1[q']'(by omega)):=Array.getElem?_eq_getElem (by omega)
   have o1:ZQ c.P w lim true E xs _ (X1 d (q'+1)):=a7 q' _ _ hq' hu1
   have o0:ZQ c.P w lim true E xs _ (X d (q'+1)):=c7 q' _ _ hq' hu1
   rw [g1] at o0
   obtain ⟨arr0,cap0,m1,_⟩:=Ke o0 (.inr hdp') (by rw [← g1];exact hsim.deepB (Z7 hd'))
   rcases o1.one (.inr hdp') (k1.deepB (Z7 hd1)) with ⟨us1,n1,n2,_⟩ | ⟨_,_,a,n3⟩
   ·rw [m1] at n2;exact n2.symm
   ·rw [m1] at n3
    simp only [Value.slice.injEq,Option.some.injEq] at n3
    omega
  ·rw [e1] at hsd;rw [← hsd] at hng;cases hng
 have hd1:Zo (Ju σ' ((t,Vn c.P true e ys)::us) d) q=some (E,xs):=by rw [hxd];exact hd'
 have hval:∃ a n cp,tm.getD t undef = .slice a n cp:=by
  rcases k2.noMap hem' with ⟨us1,hr,_⟩ | ⟨_,_,b1,hv⟩
  ·rcases hr.2 with ⟨hv,_⟩ | ⟨g,cap,cur,hv,_⟩ <;> exact ⟨_,_,_,hv⟩
  ·exact ⟨_,_,_,hv⟩
 have hmul:i*P.cellsOf (bT E)+P.cellsOf (bT E)≤xs.length*P.cellsOf (bT E):=by
  rw [← Nat.succ_mul];exact Nat.mul_le_mul_right _ hi
 have hcap:xs.length*P.cellsOf (bT E)≤cap*P.cellsOf (bT E):=Nat.mul_le_mul_right _ g6
 have hmem:=Yz (i:=i) (o:=off) (e:=[AV.nest (P.cellsOf e) true e ys]) g9 g10 (by simp;omega) (fun z hz=>by simp at hz;subst hz;rfl)
 have hcl:=ZQ.cells1 k2
 have hst:=Yy (P:=P) (T:=T) (w:=w) (b:=b) (off:=i*P.cellsOf (bT E)+off) (v:=tm.getD t undef) (us:=[tm.getD t undef]) hinf (by rw [hcl.1]) (by simp [hn]) g3 (by simp [g8];omega) (fun u hu=>by simp at hu;subst hu;simpa using hcl.2)
 obtain ⟨arr',harr⟩:∃ arr',arr'=(arr.toList.take (i*P.cellsOf (bT E)+off)++[tm.getD t undef]++arr.toList.drop (i*P.cellsOf (bT E)+off+1)).toArray:=⟨_,rfl⟩
 have hsz:arr'.size=arr.size:=by rw [harr];simp [g8];omega
 have hstep:=Jc (cs:=arr') g3 g4
 have hfl:=Jt (i:=i) (o:=off) (e:=[AV.nest (P.cellsOf e) true e ys]) g9 hi (by simp;omega)
 have hxl:=Zl xs _ g9
 have hget:∀ j,(Zw xs i off [AV.nest (P.cellsOf e) true e ys]).flatten[j]? = if j=i*P.cellsOf (bT E)+off then some (.nest (P.cellsOf e) true e ys) else xs.flatten[j]?:=fun j=>by
  rw [hfl,KQ _ _ _ (by simp [hxl];omega)]
  by_cases hj:j=i*P.cellsOf (bT E)+off
  ·subst hj;rw [if_pos (by simp),if_pos rfl];simp
  ·rw [if_neg (by simp;omega),if_neg hj]
 have hget':∀ j,arr'[j]? = if j=i*P.cellsOf (bT E)+off then some (tm.getD t undef) else arr[j]?:=fun j=>by
  have hal:arr.toList.length=cap*P.cellsOf (bT E):=by simpa using g8
  have h9:arr'[j]? = (arr.toList.take (i*P.cellsOf (bT E)+off)++[tm.getD t undef]++arr.toList.drop (i*P.cellsOf (bT E)+off+1))[j]?:=by rw [harr];simp
  rw [h9]
  refine (KQ arr.toList [tm.getD t undef] (i*P.cellsOf (bT E)+off) (by simp [g8];omega) j).trans ?_
  by_cases hj:j=i*P.cellsOf (bT E)+off
  ·subst hj;rw [if_pos (by simp),if_pos rfl];simp
  ·rw [if_neg (by simp;omega),if_neg hj];simp
 have hrep:∀ (j:Nat) (z:AV) (u:Value),(Zw xs i off [AV.nest (P.cellsOf e) true e ys]).flatten[j]? = some z→arr'[j]? = some u→Rep w lim z u:=fun j z u hz hu=>by
  rw [hget] at hz
  rw [hget'] at hu
  by_cases hj:j=i*P.cellsOf (bT E)+off
  ·rw [if_pos hj] at hz hu
   obtain ⟨a,n,cp,hv⟩:=hval
   simp only [Option.some.injEq] at hz hu
   subst hz
   rw [← hu,hv]
   exact .nest
  ·rw [if_neg hj] at hz hu
   exact g11 j z u hz hu
 have hYk:∀ i' j b',X1 i' j=some b'→i'≠d→Zf6 w lim (w.setRow b arr') lim b':=fun i' j b' hb' hne=>hstep.blk b' (k1.ours _ j b' hb').1 fun e'=>hne (k1.dist i' j d q b' hb' (by rw [e'];exact hX1)).1
 have hset:=k1.deepStep (w':=w.setRow b arr') (lim':=lim) (E':=E) (xs':=Zw xs i off [AV.nest (P.cellsOf e) true e ys]) (Y':=fun j=>if j=i*P.cellsOf (bT E)+off then X t 0 else X1 (ngN+b) j) hd1 (by rw [hxd,hsd];exact hng) hX1 (hstep.sub fun _ h=>.inl h)
  (VI (.inr hdp') (by rw [← hX1];exact k1.deepB (Z7 hd1)) g3 (setRow_heap w b arr arr' _ _ g3) hsz (by simp [Zw]) g4 (fun x hx=>by rw [hc];exact (hmem x hx).1) (fun x hx=>(hmem x hx).2) (fun j z u hz hu=>(hrep j z u hz hu).mono hstep.ext) (.inr ⟨hdp',rfl,hbm⟩))
  (by simp [Zw]) (YG g3 hsz b) (.inl rfl) (.mv (.inr (.inl hdp'))) (fun j b' hb'=>by
   by_cases hj:j=i*P.cellsOf (bT E)+off
   ·rw [if_pos hj] at hb'
    obtain ⟨m1,m2⟩:=k3 b' hb'
    exact .inr ⟨by simpa using (hsim.ours t 0 b' hb').1,m1,m2⟩
   ·rw [if_neg hj] at hb';exact .inl ⟨j,hb'⟩) (fun j j' b' h1 h2=>by
   by_cases hj:j=i*P.cellsOf (bT E)+off<;>by_cases hj':j'=i*P.cellsOf (bT E)+off
   ·rw [hj,hj']
   ·rw [if_pos hj] at h1;rw [if_neg hj'] at h2;exact ((k3 b' h1).2 _ _ h2).elim
   ·rw [if_neg hj] at h1;rw [if_pos hj'] at h2;exact ((k3 b' h2).2 _ _ h1).elim
   ·rw [if_neg hj] at h1;rw [if_neg hj'] at h2;exact (k1.dist _ j _ j' b' h1 h2).2)
  (fun _=>⟨⟨arr',setRow_heap w b arr arr' _ _ g3⟩,fun j s e1 ys1 u hz hu=>by
   rw [hget] at hz
   rw [Zs (setRow_heap w b arr arr' _ _ g3),hget'] at hu
   by_cases hj:j=i*P.cellsOf (bT E)+off
   ·rw [if_pos hj] at hz hu
    simp only [Option.some.injEq,AV.nest.injEq,true_and] at hz hu
    obtain ⟨rfl,rfl,rfl⟩:=hz
    subst hu
    show _∧_∧WX c.P _ lim true e ys (tm.getD t undef) (if j=i*P.cellsOf (bT E)+off then X t 0 else X1 (ngN+b) j)
    rw [if_pos hj]
    refine ⟨by rw [hc],hem',?_⟩
    have ho1:WX c.P w lim true e ys (tm.getD t undef) (X t 0):=k2.noMap hem'
    refine ho1.mono hstep.ext fun b' hb'=>hstep.blk b' (hsim.ours t 0 b' hb').1 fun e'=>(k3 b' hb').2 d q (by rw [e'];exact hX1)
   ·rw [if_neg hj] at hz hu
    show _∧_∧WX c.P _ lim true e1 ys1 u (if j=i*P.cellsOf (bT E)+off then X t 0 else X1 (ngN+b) j)
    rw [if_neg hj]
    obtain ⟨m1,m2,m3⟩:=(k1.nst d q E xs b (Z7 hd1) hdp' hX1).2 j s e1 ys1 u hz (by rw [Zs g3];exact hu)
    exact ⟨m1,m2,m3.mono hstep.ext fun b' hb'=>hYk _ j b' hb' (by omega)⟩⟩)
 rw [hxd,hsd] at hset
 refine JQ (w':=w.setRow b arr') ?_ (hnx undef _ ?_)
 ·have hev:Act.eval ⟨tm,[]⟩ (.tmp t)=tm.getD t undef:=rfl
  simp only [List.length_cons,List.length_nil,Nat.zero_add] at hst
  rw [harr]
  simp only [execOp,ho,h3,hev,Sem.run_bind,hst,Result.andThen_ok,Sem.run_pure]
 ·rw [Vr]
  exact Zy hset rfl (k:=0) trivial
theorem Zfw {z:AV} (h:z.isCell=true):(Zaq z).isCell=true:=by
 unfold Zaq
 split
 ·rfl
 ·exact h
theorem Zn8 {z:AV} {s:Nat} {e:TypeId} {ys:List (List AV)} (h:Zaq z = .nest s true e ys):False:=by
 unfold Zaq at h
 split at h
 ·cases h
 ·rename_i hn
  exact hn _ _ _ h
theorem WX.lim0 {P:Program} {w:World} {lim:Nat→Nat} {e:TypeId} {xs:List (List AV)} {v:Value} {b:Nat} (h:WX P w lim true e xs v (some b)):lim b=0:=by
 rcases h with ⟨us,_,_,h,_⟩ | ⟨_,h,_⟩
 ·exact h b rfl
 ·cases h
theorem WX.see {P:Program} {w:World} {lim lim':Nat→Nat} {e:TypeId} {xs:List (List AV)} {v:Value} {ob:Option Nat} (h:WX P w lim true e xs v ob) (he:Ext w lim w lim') (hl:∀ b,ob=some b→lim' b=xs.length*P.cellsOf e):WX P w lim' false e xs v ob:=by
 rcases h with ⟨us,h1,h2,h3,h4,h5,h6⟩ | h
 ·exact .inl ⟨us,h1,h2,fun b hb=>by rw [if_neg (by simp),hl b hb,h1.1],h4,h5,fun j c u hc hu=>(h6 j c u hc hu).mono he⟩
 ·exact .inr h
theorem Sim.deepFreeze {c:Ctx} {σ:Nat→AV} {tm:Array Value} {w:World} {lim:Nat→Nat} {X:Nat→Nat→Option Nat} (h:Sim c σ tm w lim X) {d k b:Nat} {E E':TypeId} {xs xs':List (List AV)} (F:Nat→Prop)
  (hp:Zo (σ d) k=some (E,xs)) (hng:(σ d).isG=false) (hX:X d k=some b) (hdp:Zg c.P E=true) (hE':E'=E∨(E'=bT E∧∀ i,¬ Je (σ i) d k)) (hl:xs'.length=xs.length) (h1:∀ x∈xs',x.length=c.P.cellsOf (bT E)) (h2:∀ x∈xs',∀ z∈x,z.isCell=true)
  (hxs:∀ j z,xs'.flatten[j]? = some z→∃ c0,xs.flatten[j]? = some c0∧(F j→z=Zaq c0)∧(¬ F j→z=c0)) :
  ∃ lim' X',Sim c (upd σ d (Zn (σ d) k true E' xs')) tm w lim' X'∧∀ (arr:Array Value),w.heap[b]? = some (.cells arr (bT E) (0,0))→∀ (j:Nat) (z:AV) (u:Value),xs'.flatten[j]? = some z→arr[j]? = some u→Rep w lim' z u:=by
 classical
 obtain ⟨v0,ho⟩:=JI h hp
 rw [hX] at ho
 have hdb:Zff c.P w E (some b):=by rw [← hX];exact h.deepB (Z7 hp)
 obtain ⟨arr,cap,g1,g2,g3,g4,g5,g6,g7,g8,g9⟩:=Ke ho (.inr hdp) hdb
 have hbm:=Zcq h hp hX hdp
 have hN:=(h.nst d k E xs b (Z7 hp) hdp hX).2
 have hdf:d < ngN:=by
  rcases Nat.lt_or_ge d ngN with hlt | hge
  ·exact hlt
  ·rw [h.far d hge] at hp;cases hp
 have hxl:=Zl xs _ g7
 have hcell:∀ j,j < xs.flatten.length→∃ u,arr[j]? = some u:=fun j hj=>by
  have hm:xs.length*c.P.cellsOf (bT E)≤cap*c.P.cellsOf (bT E):=Nat.mul_le_mul_right _ g4
  exact ⟨arr[j]'(by omega),Array.getElem?_eq_getElem (by omega)⟩
 let R:Nat→Nat→Prop:=fun b' n=>∃ j s e ys,F j∧X (ngN+b) j=some b'∧xs.flatten[j]? = some (.nest s true e ys)∧n=ys.length*s
 let lim':Nat→Nat:=fun b'=>if hb:∃ n,R b' n then Classical.choose hb else lim b'
 have hR:∀ b' n,R b' n→lim' b'=n:=fun b' n hr=>by
  have hb:∃ n,R b' n:=⟨n,hr⟩
  show (if hb:∃ n,R b' n then Classical.choose hb else lim b')=n
  rw [dif_pos hb]
  obtain ⟨j1,s1,e1,ys1,m1,m2,m3,m4⟩:=Classical.choose_spec hb
  obtain ⟨j2,s2,e2,ys2,n1,n2,n3,n4⟩:=hr
  have hj:=(h.dist _ j1 _ j2 b' m2 n2).2
  subst hj
  rw [m3] at n3
  simp only [Option.some.injEq,AV.nest.injEq,true_and] at n3
  obtain ⟨rfl,rfl,rfl⟩:=n3
  rw [m4,n4]
 have hnR:∀ b',(¬ ∃ n,R b' n)→lim' b'=lim b':=fun b' hb=>dif_neg hb
 have hR0:∀ b' n,R b' n→lim b'=0:=fun b' n hr=>by
  obtain ⟨j,s,e,ys,m1,m2,m3,_⟩:=hr
  obtain ⟨u,hu⟩:=hcell j (List.getElem?_eq_some_iff.1 m3).1
  obtain ⟨_,_,m4⟩:=hN j s e ys u m3 (by rw [Zs g2];exact hu)
  rw [m2] at m4
  exact m4.lim0
 have hext:Ext w lim w lim':=fun b' _=>⟨by
  by_cases hb:∃ n,R b' n
  ·obtain ⟨n,hr⟩:=hb;rw [hR0 b' n hr];exact Nat.zero_le _
  ·rw [hnR b' hb];exact Nat.le_refl _,fun _ _ _ hu=>hu⟩
 have hstep:ZN w lim w lim' (fun b'=>∃ j,X (ngN+b) j=some b'):=⟨rfl,rfl,rfl,Nat.le_refl _,fun _ _=>rfl,fun b' _ hn=>⟨rfl,hnR b' fun ⟨n,j,_,_,_,_,m2,_⟩=>hn ⟨j,m2⟩⟩,hext⟩
 have hbb:lim' b=0:=by
  rw [hnR b fun ⟨n,j,_,_,_,_,m2,_⟩=>by
   have:=(h.dist (ngN+b) j d k b m2 hX).1;omega]
  exact g3
 have hrep:∀ (j:Nat) (z:AV) (u:Value),xs'.flatten[j]? = some z→arr[j]? = some u→Rep w lim' z u:=fun j z u hz hu=>by
  obtain ⟨c0,m1,m2,m3⟩:=hxs j z hz
  have hold:=(g9 j c0 u m1 hu).mono hext
  by_cases hF:F j
  ·rw [m2 hF]
   unfold Zaq
   split
   ·rename_i s e ys
    obtain ⟨n1,n2,n3⟩:=hN j s e ys u m1 (by rw [Zs g2];exact hu)
    subst n1
    exact ZQ.rep (n3.see hext fun b' hb'=>hR b' _ ⟨j,_,e,ys,hF,hb',m1,rfl⟩).own false rfl
   ·exact hold
  ·rw [m3 hF];exact hold
 have hbt:bT (bT E)=bT E:=Kd hbm
 refine ⟨lim',_,h.deepStep (E':=E') (Y':=X (ngN+b)) hp hng hX (hstep.sub fun _ hh=>.inr hh) (VI (.inr hdp) hdb g2 g2 rfl hl hbb h1 h2 hrep ?_) hl (.of rfl) (hE'.imp id fun h=>h.2) ?_ (fun j b' hb'=>.inl ⟨j,hb'⟩) (fun j j' b' q1 q2=>(h.dist _ j _ j' b' q1 q2).2) (fun hd'=>⟨⟨arr,?_⟩,fun j s e ys u hz hu=>?_⟩),fun arr' ha'=>?_⟩
 ·rcases hE' with rfl | ⟨rfl,_⟩
  ·exact .inr ⟨hdp,rfl,hbm⟩
  ·exact .inl rfl
 ·rcases hE' with rfl | ⟨rfl,_⟩
  ·exact .mv (.inr (.inl hdp))
  ·exact .noMap hbm
 ·rcases hE' with rfl | ⟨rfl,_⟩
  ·exact g2
  ·rw [hbt];exact g2
 ·obtain ⟨c0,m1,m2,m3⟩:=hxs j _ hz
  by_cases hF:F j
  ·exact (Zn8 (m2 hF).symm).elim
  ·have:=m3 hF
   subst this
   obtain ⟨n1,n2,n3⟩:=hN j s e ys u m1 hu
   refine ⟨n1,n2,n3.mono hext fun b' hb'=>⟨rfl,hnR b' fun ⟨n,j',_,_,_,q1,q2,_⟩=>?_⟩⟩
   have:=(h.dist _ j' _ j b' q2 hb').2
   subst this
   exact hF q1
 ·rw [g2] at ha'
  simp only [Option.some.injEq,Obj.cells.injEq,and_true] at ha'
  subst ha'
  exact hrep
theorem Sim.retype0 {c:Ctx} {σ:Nat→AV} {tm:Array Value} {w:World} {lim:Nat→Nat} {X:Nat→Nat→Option Nat} (h:Sim c σ tm w lim X) {d k:Nat} {E E':TypeId} {xs:List (List AV)}
  (hp:Zo (σ d) k=some (E,xs)) (hng:(σ d).isG=false) (hX:X d k=none) (hm:Zm c.P E=false∨Zg c.P E=true) (hm':Zm c.P E'=false∨Zg c.P E'=true) (href:∀ i,¬ Je (σ i) d k) :
  xs = []∧Sim c (upd σ d (Zn (σ d) k true E' [])) tm w lim X:=by
 obtain ⟨v0,ho⟩:=JI h hp
 have hdb:Zff c.P w E (X d k):=h.deepB (Z7 hp)
 have hnew:∀ v,ZQ c.P w lim true E xs v none→xs = []∧ZQ c.P w lim true E' [] v none:=fun v hv=>by
  rcases hv.one hm (by rw [← hX];exact hdb) with ⟨us,g1,g2,_⟩ | ⟨g1,_,g3⟩
  ·rcases g1.2 with ⟨hv,hn⟩ | ⟨g,cap,cur,hv,_⟩
   ·subst hv
    exact ⟨List.eq_nil_of_length_eq_zero hn,.inl ⟨[],World.ownsRow_nil _ 0 _ _,rfl,by simp,by simp,by simp,by simp⟩⟩
   ·rw [hv] at g2;cases g2
  ·exact ⟨g1,.inr (.inl ⟨rfl,rfl,g3⟩)⟩
 have hxs:xs = []:=by rw [hX] at ho;exact (hnew _ ho).1
 refine ⟨hxs,?_⟩
 subst hxs
 obtain ⟨q1,q2,q3,q4,q5,q6⟩:=WM (e':=E') (xs':=[]) hp hng
 have hG:∀ i,(σ i).isG=true→i≠d:=fun i hi e=>by rw [e,hng] at hi;cases hi
 have hdd:σ d≠.dead:=fun e=>by rw [e] at hp;cases hp
 refine ⟨fun i=>?_,h.size,fun i hi=>?_,fun i hi=>?_,h.dist,h.ours,h.frm,fun i v hv=>?_,fun i e1 xs1 he=>?_,fun i b hb=>?_,h.ntN,fun i hi=>?_,fun i p e1 xs1 b1 m1 m2 m3=>?_,h.yfr⟩
 ·by_cases hi:i=d
  ·subst hi
   rw [ZC]
   have hr:=h.rel i
   rcases Zz hp with ⟨g1,rfl⟩ | ⟨cs,q,g1,rfl,g2⟩ | ⟨_,_,g1,_⟩
   case inr.inr=>rw [g1] at hng;cases hng
   ·rw [g1] at hr ⊢
    have hr':ZQ c.P w lim true E [] (tm.getD i undef) (X i 0):=hr
    rw [hX] at hr'
    show ZQ c.P w lim true E' [] _ (X i 0)
    rw [hX]
    exact (hnew _ hr').2
   ·rw [g1] at hr ⊢
    obtain ⟨b0,arr,t,k1,k2,k3,k4,k5,k6,k7⟩:=(show ZI c.P w lim (X i) cs _ from hr)
    refine ⟨b0,arr,t,k1,k2,k3,by rw [List.length_set];exact k4,k5,fun x hx=>?_,fun j x u hx hu=>?_⟩
    ·rcases List.mem_or_eq_of_mem_set hx with hx | hx
     ·exact k6 x hx
     ·exact .inr (.inl ⟨_,_,_,hx⟩)
    ·by_cases hj:j=q
     ·subst hj
      rw [List.getElem?_set_self (List.getElem?_eq_some_iff.1 g2).1] at hx
      simp only [Option.some.injEq] at hx
      subst hx
      have hc:ZQ c.P w lim true E [] u (X i (j+1)):=k7 j _ u g2 hu
      rw [hX] at hc
      show ZQ c.P w lim true E' [] u (X i (j+1))
      rw [hX]
      exact (hnew u hc).2
     ·rw [List.getElem?_set_ne (fun h=>hj h.symm)] at hx
      exact k7 j x u hx hu
  ·rw [Zf σ _ hi]
   refine (h.rel i).chg rfl (fun d' cs hd'=>⟨?_,rfl⟩) (fun d' hd'=>⟨?_,rfl⟩) fun d' p hr=>⟨?_,rfl⟩
   ·by_cases hdd:d'=d
    ·subst hdd;rw [ZC];exact q6 cs hd'
    ·exact ⟨cs,by rw [Zf σ _ hdd];exact hd'⟩
   ·rw [Zf σ _ (hG d' hd')];exact hd'
   ·by_cases hdd:d'=d
    ·subst hdd
     rw [ZC]
     have hpk:p≠k:=fun e=>href i (e ▸ hr)
     intro e1 ys hy
     exact ⟨ys,by rw [q2 p hpk];exact hy,rfl⟩
    ·rw [Zf σ _ hdd];exact Kl.refl _ _
 ·by_cases hid:i=d
  ·subst hid
   rcases h.out i hi with h1 | h1
   ·exact (hdd h1).elim
   ·exact (hG i h1 rfl).elim
  ·rw [Zf σ _ hid];exact h.out i hi
 ·by_cases hid:i=d
  ·subst hid;rw [ZC,q5] at hi;cases hi
  ·rw [Zf σ _ hid] at hi;exact h.ghost i hi
 ·obtain ⟨g1,cs,g2⟩:=h.pin i v hv
  by_cases hid:i=d
  ·subst hid
   obtain ⟨cs',hcs⟩:=q6 cs g2
   exact ⟨g1,cs',by rw [ZC];exact hcs⟩
  ·exact ⟨g1,cs,by rw [Zf σ _ hid];exact g2⟩
 ·by_cases hid:i=d
  ·subst hid
   rw [ZC] at he
   have hk0:k=0:=by
    cases k with
    | zero => rfl
    | succ k => rw [he] at q1; simp [Zo] at q1
   subst hk0
   exact .none hX
  ·rw [Zf σ _ hid] at he;exact h.mp i e1 xs1 he
 ·obtain ⟨g1,g2⟩:=h.gpin i b hb
  exact ⟨g1,by rw [Zf σ _ (hG i g2)];exact g2⟩
 ·by_cases hid:i=d
  ·subst hid;exact (hdd (h.far i hi)).elim
  ·rw [Zf σ _ hid];exact h.far i hi
 ·by_cases hid:i=d
  ·subst hid
   by_cases hpk:p=k
   ·subst hpk;rw [hX] at m3;cases m3
   ·rw [ZC,q3 p hpk] at m1
    exact h.nst i p e1 xs1 b1 m1 m2 m3
  ·rw [Zf σ _ hid] at m1
   exact h.nst i p e1 xs1 b1 m1 m2 m3
theorem Kc (f:AV→AV):∀ (xs:List (List AV)) (j:Nat),(xs.map fun r=>r.map f).flatten[j]? = (xs.flatten[j]?).map f
 | xs, j => by rw [← List.map_flatten, List.getElem?_map]
theorem Sim.undeep {c:Ctx} {σ:Nat→AV} {tm:Array Value} {w:World} {lim:Nat→Nat} {X:Nat→Nat→Option Nat} (h:Sim c σ tm w lim X) {d k:Nat} {E:TypeId} {xs:List (List AV)}
  (hp:Zo (σ d) k=some (E,xs)) (hng:(σ d).isG=false) (hdp:Zg c.P E=true) (hem:Zm c.P (bT E)=false) (href:∀ i,¬ Je (σ i) d k):∃ lim' X',Sim c (upd σ d (Zn (σ d) k true (bT E) (Wh xs))) tm w lim' X':=by
 cases hX:X d k with
 | none =>
  obtain ⟨rfl,h1⟩:=h.retype0 (E':=bT E) hp hng hX (.inr hdp) (.inl hem) href
  exact ⟨lim,X,h1⟩
 | some b =>
  obtain ⟨v0,ho⟩:=JI h hp
  rw [hX] at ho
  obtain ⟨arr,cap,g1,g2,g3,g4,g5,g6,g7,g8,g9⟩:=Ke ho (.inr hdp) (by rw [← hX];exact h.deepB (Z7 hp))
  have hA:∀ x∈Wh xs,x.length=c.P.cellsOf (bT E):=fun x hx=>by
   obtain ⟨r,hr,rfl⟩:=List.mem_map.1 hx
   rw [List.length_map];exact g7 r hr
  have hB:∀ x∈Wh xs,∀ z∈x,z.isCell=true:=fun x hx z hz=>by
   obtain ⟨r,hr,rfl⟩:=List.mem_map.1 hx
   obtain ⟨y,hy,rfl⟩:=List.mem_map.1 hz
   exact Zfw (g8 r hr y hy)
  obtain ⟨lim',X',h1,_⟩:=h.deepFreeze (E':=bT E) (xs':=Wh xs) (fun _=>True) hp hng hX hdp (.inr ⟨rfl,href⟩) (by simp [Wh]) hA hB (fun j z hz=>by
   rw [Wh,Kc] at hz
   cases hc:xs.flatten[j]? with
   | none => rw [hc] at hz; cases hz
   | some c0 =>
    rw [hc] at hz
    simp only [Option.map_some,Option.some.injEq] at hz
    exact ⟨c0,rfl,fun _=>hz.symm,fun hh=>(hh trivial).elim⟩)
  exact ⟨lim',X',h1⟩
theorem Zja {z:AV} (h:z.isCell=true):(ZoW z).isCell=true:=by
 unfold ZoW
 split
 ·rfl
 ·exact h
theorem ZmU {w:World} {lim:Nat→Nat} {z:AV} {v:Value} (h:Rep w lim z v):Rep w lim (ZoW z) v:=by
 unfold ZoW
 split
 ·cases h;exact .nest
 ·exact h
theorem ZoP {z:AV} {s:Nat} {e:TypeId} {ys:List (List AV)} (h:ZoW z = .nest s true e ys):False:=by
 unfold ZoW at h
 split at h
 ·cases h
 ·rename_i hn
  exact hn _ _ _ h
theorem Sim.deepen {c:Ctx} {σ:Nat→AV} {tm:Array Value} {w:World} {lim:Nat→Nat} {X:Nat→Nat→Option Nat} (h:Sim c σ tm w lim X) {d k:Nat} {e E:TypeId} {xs:List (List AV)}
  (hp:Zo (σ d) k=some (e,xs)) (hng:(σ d).isG=false) (hem:Zm c.P e=false) (hdp:Zg c.P E=true) (hE:bT E=e) (href:∀ i,¬ Je (σ i) d k):∃ X',Sim c (upd σ d (Zn (σ d) k true E (ZkV xs))) tm w lim X':=by
 cases hX:X d k with
 | none =>
  obtain ⟨rfl,h1⟩:=h.retype0 (E':=E) hp hng hX (.inl hem) (.inr hdp) href
  exact ⟨X,h1⟩
 | some b =>
  obtain ⟨v0,ho⟩:=JI h hp
  rw [hX] at ho
  have hdb:Zff c.P w e (some b):=by rw [← hX];exact h.deepB (Z7 hp)
  obtain ⟨arr,cap,g1,g2,g3,g4,g5,g6,g7,g8,g9⟩:=Ke ho (.inl hem) hdb
  have hbe:bT e=e:=Kd hem
  refine ⟨_,h.deepStep (w':=w) (lim':=lim) (E':=E) (xs':=ZkV xs) (Y':=X (ngN+b)) hp hng hX (ZN.refl w lim _) (VI (.inl hem) hdb g2 g2 rfl (by simp [ZkV]) g3 (fun x hx=>?_) (fun x hx z hz=>?_) (fun j z u hz hu=>?_) (.inr ⟨hdp,by rw [hE,hbe],by rw [hbe];exact hem⟩)) (by simp [ZkV]) (.of rfl) (.inr href) (.mv (.inr (.inl hdp)))
   (fun j b' hb'=>.inl ⟨j,hb'⟩) (fun j j' b' q1 q2=>(h.dist _ j _ j' b' q1 q2).2) (fun _=>⟨⟨arr,by rw [hE,← hbe];exact g2⟩,fun j s e1 ys u hz hu=>?_⟩)⟩
  ·obtain ⟨r,hr,rfl⟩:=List.mem_map.1 hx
   rw [List.length_map];exact g7 r hr
  ·obtain ⟨r,hr,rfl⟩:=List.mem_map.1 hx
   obtain ⟨y,hy,rfl⟩:=List.mem_map.1 hz
   exact Zja (g8 r hr y hy)
  ·rw [ZkV,Kc] at hz
   cases hc:xs.flatten[j]? with
   | none => rw [hc] at hz; cases hz
   | some c0 =>
    rw [hc] at hz
    simp only [Option.map_some,Option.some.injEq] at hz
    subst hz
    exact ZmU (g9 j c0 u hc hu)
  ·rw [ZkV,Kc] at hz
   cases hc:xs.flatten[j]? with
   | none => rw [hc] at hz; cases hz
   | some c0 =>
    rw [hc] at hz
    simp only [Option.map_some,Option.some.injEq] at hz
    exact (ZoP hz).elim
theorem Zmw {xs:List (List AV)} {s i off:Nat} {row:List AV} {z:AV} (h:∀ x∈xs,x.length=s) (hr:xs[i]? = some row) (hz:row[off]? = some z):xs.flatten[i*s+off]? = some z:=by
 have hlt:=(List.getElem?_eq_some_iff.1 hz).1
 rw [h row (List.mem_of_getElem? hr)] at hlt
 rw [JE xs s h i row hr off hlt]
 exact hz
theorem ZcK {P:Program} {o:Oper} {σ:Nat→AV} {T E e:TypeId} {a:Operand} {d q i off s:Nat} {xs ys:List (List AV)} {row:List AV} (ho:o.op = .load T a) (hT:Z0 P T=some false) (ha:Zr P σ a = .eref d q (i*P.cellsOf (bT E)+off)) (hd:Zo (σ d) q=some (E,xs)) (hng:(σ d).isG=false)
  (hrow:xs[i]? = some row) (hz:row[off]? = some (.nest s true e ys)) (hdp:Zg P E=true) :
  JA P o σ (.own true e ys) [(d,Zn (σ d) q true E (Zw xs i off [.nest s false e []]))] [d]:=by
 intro c hc σ' tm w lim X hid hag hsim next Q hnx
 have hga:Zr P σ' a=Zr P σ a:=ZA fun t ht=>hid t (by simp [Zt (o:=o) (x:=a) (by rw [ho];simp [Op.operands]) ht])
 have hsd:σ' d=σ d:=hag d (by simp)
 have hd':Zo (σ' d) q=some (E,xs):=by rw [hsd,hd]
 have hva:=J0 hc hsim ha hga
 rw [← hc] at hva
 have hdp':Zg c.P E=true:=by rw [hc];exact hdp
 obtain ⟨b,arr,cap,g1,h3,g3,g4,g6,g7,g8,g9,g10,g11⟩:=KA hsim hd' hva (.inr hdp')
 have hbm:=Zcq hsim hd' g1 hdp'
 have hflat:=Zmw g9 hrow hz
 rw [hc] at g8 g9 h3 hflat
 have hdf:d < ngN:=by
  rcases Nat.lt_or_ge d ngN with hlt | hge
  ·exact hlt
  ·rw [hsim.far d hge] at hd';cases hd'
 have hxl:=Zl xs _ g9
 have hil:=(List.getElem?_eq_some_iff.1 hrow).1
 have hol:off < P.cellsOf (bT E):=by rw [← g9 row (List.mem_of_getElem? hrow)];exact (List.getElem?_eq_some_iff.1 hz).1
 have hmul:i*P.cellsOf (bT E)+P.cellsOf (bT E)≤xs.length*P.cellsOf (bT E):=by
  rw [← Nat.succ_mul];exact Nat.mul_le_mul_right _ hil
 have hcap:xs.length*P.cellsOf (bT E)≤cap*P.cellsOf (bT E):=Nat.mul_le_mul_right _ g6
 have hmem:=Yz (i:=i) (o:=off) (e:=[AV.nest s false e []]) g9 g10 (by simp;omega) (fun z hz=>by simp at hz;subst hz;rfl)
 obtain ⟨u,hu⟩:∃ u,arr[i*P.cellsOf (bT E)+off]? = some u:=⟨arr[i*P.cellsOf (bT E)+off]'(by omega),Array.getElem?_eq_getElem (by omega)⟩
 have hcell:w.cell? ⟨b,i*P.cellsOf (bT E)+off,none⟩=some u:=by rw [Zs g3];exact hu
 obtain ⟨n1,n2,n3⟩:=(hsim.nst d q E xs b (Z7 hd') hdp' g1).2 _ s e ys u hflat hcell
 have hfl:=Jt (i:=i) (o:=off) (e:=[AV.nest s false e []]) g9 hil (by simp;omega)
 have hget:∀ j,(Zw xs i off [AV.nest s false e []]).flatten[j]? = if j=i*P.cellsOf (bT E)+off then some (.nest s false e []) else xs.flatten[j]?:=fun j=>by
  rw [hfl,KQ _ _ _ (by simp [hxl];omega)]
  by_cases hj:j=i*P.cellsOf (bT E)+off
  ·subst hj;rw [if_pos (by simp),if_pos rfl];simp
  ·rw [if_neg (by simp;omega),if_neg hj]
 have hset:=hsim.deepStep (w':=w) (lim':=lim) (E':=E) (xs':=Zw xs i off [AV.nest s false e []]) (Y':=fun j=>if j=i*P.cellsOf (bT E)+off then none else X (ngN+b) j) hd' (by rw [hsd];exact hng) g1 (ZN.refl w lim _)
  (VI (.inr hdp') (by rw [← g1];exact hsim.deepB (Z7 hd')) g3 g3 rfl (by simp [Zw]) g4 (fun x hx=>by rw [hc];exact (hmem x hx).1) (fun x hx=>(hmem x hx).2) (fun j z u' hz' hu'=>by
   rw [hget] at hz'
   by_cases hj:j=i*P.cellsOf (bT E)+off
   ·rw [if_pos hj] at hz'
    simp only [Option.some.injEq] at hz'
    subst hz'
    have:=g11 j _ u' (by rw [hj];exact hflat) hu'
    cases this
    exact .nest
   ·rw [if_neg hj] at hz';exact g11 j z u' hz' hu') (.inr ⟨hdp',rfl,hbm⟩))
  (by simp [Zw]) (.of rfl) (.inl rfl) (.mv (.inr (.inl hdp'))) (fun j b' hb'=>by
   by_cases hj:j=i*P.cellsOf (bT E)+off
   ·rw [if_pos hj] at hb';cases hb'
   ·rw [if_neg hj] at hb';exact .inl ⟨j,hb'⟩) (fun j j' b' q1 q2=>by
   by_cases hj:j=i*P.cellsOf (bT E)+off
   ·rw [if_pos hj] at q1;cases q1
   ·by_cases hj':j'=i*P.cellsOf (bT E)+off
    ·rw [if_pos hj'] at q2;cases q2
    ·rw [if_neg hj] at q1;rw [if_neg hj'] at q2;exact (hsim.dist _ j _ j' b' q1 q2).2)
  (fun _=>⟨⟨arr,g3⟩,fun j s1 e1 ys1 u' hz' hu'=>by
   rw [hget] at hz'
   by_cases hj:j=i*P.cellsOf (bT E)+off
   ·rw [if_pos hj] at hz';cases hz'
   ·rw [if_neg hj] at hz'
    show _∧_∧WX c.P w lim true e1 ys1 u' (if j=i*P.cellsOf (bT E)+off then none else X (ngN+b) j)
    rw [if_neg hj]
    exact (hsim.nst d q E xs b (Z7 hd') hdp' g1).2 j s1 e1 ys1 u' hz' hu'⟩)
 rw [hsd] at hset
 refine Zq (v:=u) (w':=w) ?_ (hnx _ w (Z8 (ob:=X (ngN+b) (i*P.cellsOf (bT E)+off)) hset n3.own (fun b' hb'=>⟨(hsim.ours _ _ b' hb').2,fun i' j' hij=>?_⟩) (fun _=>.noMap n2) fun _ hd0=>by rw [ZT n2] at hd0;cases hd0))
 ·simp [execOp,ho,h3,Jy hT hcell]
 ·by_cases hi':i'=ngN+b
  ·subst hi'
   rw [Zp] at hij
   by_cases hj:j'=i*P.cellsOf (bT E)+off
   ·rw [if_pos hj] at hij;cases hij
   ·rw [if_neg hj] at hij
    exact hj (hsim.dist _ j' _ _ b' hij hb').2
  ·rw [Zk X _ hi'] at hij
   exact hi' (hsim.dist i' j' _ _ b' hij hb').1
theorem ZmE {xs:List (List AV)} {i off m:Nat} {row:List AV} (hr:xs[i]? = some row) (h:off+m≤row.length):Kz xs i off m=Zw xs i off (((row.drop off).take m).map Zaq):=by
 unfold Kz Zw
 refine List.ext_getElem? fun j=>?_
 rw [List.getElem?_modify,List.getElem?_modify]
 by_cases hj:i=j
 ·subst hj
  rw [hr]
  simp only [if_pos,Option.map_eq_map,Option.map_some,setCells]
  have:(List.map Zaq (List.take m (List.drop off row))).length=m:=by simp;omega
  rw [this]
 ·simp only [if_neg hj]
theorem Sim.deepRead {c:Ctx} {σ:Nat→AV} {tm:Array Value} {w:World} {lim:Nat→Nat} {X:Nat→Nat→Option Nat} (h:Sim c σ tm w lim X) {d q k i off m:Nat} {E:TypeId} {xs:List (List AV)} {row:List AV} {v:Value} (hd:Zo (σ d) q=some (E,xs)) (hng:(σ d).isG=false)
  (hv:ZP c.P w lim X σ k (.eref d q (i*c.P.cellsOf (bT E)+off)) v) (hrow:xs[i]? = some row) (hn:off+m≤c.P.cellsOf (bT E)) (hdp:Zg c.P E=true) :
  ∃ b lim' X' us,v = .pointer (some ⟨b,i*c.P.cellsOf (bT E)+off,none⟩)∧Sim c (upd σ d (Zn (σ d) q true E (Kz xs i off m))) tm w lim' X'∧us.length=m∧(∀ (j:Nat) (u:Value),us[j]? = some u→w.cell? ⟨b,i*c.P.cellsOf (bT E)+off+j,none⟩=some u)∧
   Yf w lim' (((row.drop off).take m).map Zaq) us:=by
 obtain ⟨b,arr,cap,g1,h3,g3,g4,g6,g7,g8,g9,g10,g11⟩:=KA h hd hv (.inr hdp)
 have hil:=(List.getElem?_eq_some_iff.1 hrow).1
 have hrl:=g9 row (List.mem_of_getElem? hrow)
 have hmul:i*c.P.cellsOf (bT E)+c.P.cellsOf (bT E)≤xs.length*c.P.cellsOf (bT E):=by
  rw [← Nat.succ_mul];exact Nat.mul_le_mul_right _ hil
 have hcap:xs.length*c.P.cellsOf (bT E)≤cap*c.P.cellsOf (bT E):=Nat.mul_le_mul_right _ g6
 have hxl:=Zl xs _ g9
 have hset:=ZmE (off:=off) (m:=m) hrow (by omega)
 have hlen:(((row.drop off).take m).map Zaq).length=m:=by simp;omega
 have hcs:∀ z∈((row.drop off).take m).map Zaq,z.isCell=true:=fun z hz=>by
  obtain ⟨y,hy,rfl⟩:=List.mem_map.1 hz
  exact Zfw (g10 row (List.mem_of_getElem? hrow) y (List.mem_of_mem_drop (List.mem_of_mem_take hy)))
 have hmem:=Yz (i:=i) (o:=off) g9 g10 (by rw [hlen];exact hn) hcs
 have hfl:=Jt (i:=i) (o:=off) (e:=((row.drop off).take m).map Zaq) g9 hil (by rw [hlen];exact hn)
 have hget:∀ j,(Kz xs i off m).flatten[j]? = if i*c.P.cellsOf (bT E)+off≤j∧j < i*c.P.cellsOf (bT E)+off+m then (((row.drop off).take m).map Zaq)[j-(i*c.P.cellsOf (bT E)+off)]? else xs.flatten[j]?:=fun j=>by
  rw [hset,hfl,KQ _ _ _ (by rw [hlen,hxl];omega),hlen]
 have hrowat:∀ j,j < m→xs.flatten[i*c.P.cellsOf (bT E)+off+j]? = row[off+j]?:=fun j hj=>by
  rw [Nat.add_assoc];exact JE xs _ g9 i row hrow (off+j) (by omega)
 obtain ⟨lim',X',k1,k2⟩:=h.deepFreeze (E':=E) (xs':=Kz xs i off m) (fun j=>i*c.P.cellsOf (bT E)+off≤j∧j < i*c.P.cellsOf (bT E)+off+m) hd hng g1 hdp (.inl rfl) (by rw [hset];simp [Zw]) (fun x hx=>by rw [hset] at hx;exact (hmem x hx).1) (fun x hx=>by rw [hset] at hx;exact (hmem x hx).2) (fun j z hz=>by
  rw [hget] at hz
  by_cases hj:i*c.P.cellsOf (bT E)+off≤j∧j < i*c.P.cellsOf (bT E)+off+m
  ·rw [if_pos hj,List.getElem?_map,List.getElem?_take,if_pos (by omega),List.getElem?_drop] at hz
   have hr:=hrowat (j-(i*c.P.cellsOf (bT E)+off)) (by omega)
   rw [show i*c.P.cellsOf (bT E)+off+(j-(i*c.P.cellsOf (bT E)+off))=j by omega] at hr
   rw [hr]
   cases hc:row[off+(j-(i*c.P.cellsOf (bT E)+off))]? with
   | none => rw [hc] at hz; cases hz
   | some c0 =>
    rw [hc] at hz
    simp only [Option.map_some,Option.some.injEq] at hz
    exact ⟨c0,rfl,fun _=>hz.symm,fun hh=>(hh hj).elim⟩
  ·rw [if_neg hj] at hz
   exact ⟨z,hz,fun hh=>(hj hh).elim,fun _=>rfl⟩)
 refine ⟨b,lim',X',(arr.toList.drop (i*c.P.cellsOf (bT E)+off)).take m,h3,k1,by simp [g8];omega,fun j u hj=>?_,?_⟩
 ·rw [List.getElem?_take] at hj
  split at hj
  ·rw [List.getElem?_drop] at hj
   rw [Zs g3]
   simpa using hj
  ·cases hj
 ·refine ⟨by rw [hlen];simp [g8];omega,hcs,fun j z u hz hu=>?_⟩
  have hjm:j < m:=by rw [← hlen];exact (List.getElem?_eq_some_iff.1 hz).1
  rw [List.getElem?_take,if_pos hjm,List.getElem?_drop] at hu
  refine k2 arr g3 (i*c.P.cellsOf (bT E)+off+j) z u ?_ (by simpa using hu)
  rw [hget,if_pos (by omega),show i*c.P.cellsOf (bT E)+off+j-(i*c.P.cellsOf (bT E)+off)=j by omega]
  exact hz
theorem WK {P:Program} {o:Oper} {σ:Nat→AV} {T E:TypeId} {a:Operand} {d q i off:Nat} {xs:List (List AV)} {row:List AV} (ho:o.op = .load T a) (hT:Z0 P T=some true) (ha:Zr P σ a = .eref d q (i*P.cellsOf (bT E)+off)) (hd:Zo (σ d) q=some (E,xs)) (hng:(σ d).isG=false)
  (hrow:xs[i]? = some row) (hn:off+P.cellsOf T≤P.cellsOf (bT E)) (hdp:Zg P E=true) :
  JA P o σ (.agg (((row.drop off).take (P.cellsOf T)).map Zaq)) [(d,Zn (σ d) q true E (Kz xs i off (P.cellsOf T)))] [d]:=by
 intro c hc σ' tm w lim X hid hag hsim next Q hnx
 subst hc
 have hga:Zr c.P σ' a=Zr c.P σ a:=ZA fun t ht=>hid t (by simp [Zt (o:=o) (x:=a) (by rw [ho];simp [Op.operands]) ht])
 have hsd:σ' d=σ d:=hag d (by simp)
 obtain ⟨b,lim',X',us,h3,k1,k2,k3,k4⟩:=hsim.deepRead (m:=c.P.cellsOf T) (by rw [hsd];exact hd) (by rw [hsd];exact hng) (J0 rfl hsim ha hga) hrow hn hdp
 rw [hsd] at k1
 refine Zq (v:=.agg us.toArray) (w':=w) ?_ (hnx _ w (Zy k1 rfl (k:=0) ?_))
 ·simp [execOp,ho,h3,J7 hT k2 k3]
 ·exact .agg k4.1 k4.2.1 k4.2.2
theorem VX {P:Program} {o:Oper} {σ:Nat→AV} {T E:TypeId} {a:Operand} {d q i off:Nat} {xs:List (List AV)} {row:List AV} {x:AV} (ho:o.op = .load T a) (hT:Z0 P T=some false) (ha:Zr P σ a = .eref d q (i*P.cellsOf (bT E)+off)) (hd:Zo (σ d) q=some (E,xs)) (hng:(σ d).isG=false)
  (hrow:xs[i]? = some row) (hx:row[off]? = some x) (hn:off+1≤P.cellsOf (bT E)) (hdp:Zg P E=true) :
  JA P o σ (Zaq x) [(d,Zn (σ d) q true E (Kz xs i off 1))] [d]:=by
 intro c hc σ' tm w lim X hid hag hsim next Q hnx
 subst hc
 have hga:Zr c.P σ' a=Zr c.P σ a:=ZA fun t ht=>hid t (by simp [Zt (o:=o) (x:=a) (by rw [ho];simp [Op.operands]) ht])
 have hsd:σ' d=σ d:=hag d (by simp)
 obtain ⟨b,lim',X',us,h3,k1,k2,k3,k4⟩:=hsim.deepRead (m:=1) (by rw [hsd];exact hd) (by rw [hsd];exact hng) (J0 rfl hsim ha hga) hrow hn hdp
 rw [hsd] at k1
 obtain ⟨u,rfl⟩:=List.length_eq_one_iff.1 k2
 have e1:(row.drop off).take 1 = [x]:=by rw [List.take_one,List.head?_drop,hx];rfl
 rw [e1] at k4
 have hcell:=k3 0 u rfl
 rw [Nat.add_zero] at hcell
 obtain ⟨p1,p2⟩:=Kv (P:=c.P) (X:=X') (σ:=upd σ' d (Zn (σ d) q true E (Kz xs i off 1))) (k:=0) (k4.2.1 (Zaq x) (by simp)) (k4.2.2 0 (Zaq x) u rfl rfl)
 refine Zq (v:=u) (w':=w) ?_ (hnx _ w (Zy k1 p1 (k:=0) p2))
 simp [execOp,ho,h3,Jy hT hcell]
def ZjQ (c:AV):AV:=match c with | .own _ _ _=>.gone | c=>c
theorem Zcy {T':Odr} {P:Program} {o:Oper} {σ:Nat→AV} {T:TypeId} {a:Operand} {d:Nat} {cs:List AV} {us:List (Nat×AV)} (ho:o.op = .load T a) (hT:Z0 P T=some true) (ha:Zr P σ a = .ptr d 0) (hd:σ d = .box cs) (hn:cs.length=P.cellsOf T) (hwh:Whole cs) (hus:Yd T' σ d us) :
  YY T' P o σ (.aggo cs) (us++[(d,.box (cs.map ZjQ))]) [d]:=by
 intro c hc σ' tm w lim X hid hag hT' hsim next Q hn'
 have hg:Zr P σ' a=Zr P σ a:=ZA fun t ht=>hid t (by simp [Zt (o:=o) (x:=a) (by rw [ho];simp [Op.operands]) ht])
 have hv:=J0 hc hsim ha hg
 have hd':σ' d = .box cs:=by rw [hag d (by simp),hd]
 rw [← hc] at hv
 obtain ⟨b,h1,h2,h3⟩:=Ko hsim hd' hv
 obtain ⟨hd1,hd2⟩:=hus.all hT'
 obtain ⟨X1,k1,k2⟩:=hsim.drops us fun u hu=>by
  obtain ⟨m0,m1,k,m3⟩:=hd1 u hu
  obtain ⟨p1,p2,p3⟩:=Yw m3
  exact ⟨m1,p2,Yl hsim (fun e=>by rw [e] at m3;rcases m3 with m3 | ⟨_,m3⟩ <;> cases m3) p3⟩
 have hdm:d∉us.map (·.1):=by
  intro hm
  obtain ⟨u,hu,rfl⟩:=List.mem_map.1 hm
  exact (hd1 u hu).1 rfl
 have hdead:∀ (σ:Nat→AV) (i:Nat),Ju σ us i=if i∈us.map (·.1) then .dead else σ i:=fun σ i=>Kt us σ i fun u hu=>(hd1 u hu).2.1
 have hds:Ju σ' us d = .box cs:=by rw [hdead,if_neg hdm,hd']
 have hnor:∀ i k,i≠d→Je (Ju σ' us i) d k→False:=fun i k hi hr=>by
  rw [hdead] at hr
  split at hr
  ·rcases hr with hr | ⟨_,hr⟩ <;> cases hr
  ·rename_i hm
   exact hm (hd2 i k hi hr)
 have hXd:X1 d=X d:=k2 d hdm
 have hrel:=k1.rel d
 rw [hds] at hrel
 obtain ⟨b0,arr,ty,g1,g2,g3,g4,g5,g6,g7⟩:=(show ZI c.P w lim (X1 d) cs _ from hrel)
 have hb0:b0=b:=by rw [hXd] at g1;rw [g1] at h1;exact Option.some.inj h1
 subst hb0
 have hdn:d < c.nt:=Yl hsim (by rw [hd'];exact fun h=>by cases h) (by rw [hd'];rfl)
 have hal:arr.toList.length=cs.length:=by simpa using g4
 have k3:Sim c (upd (Ju σ' us) d (.box (cs.map ZjQ))) tm w lim (KH X1 d fun k=>if k=0 then X1 d 0 else none):=by
  refine k1.putRow (S:=fun _=>False) _ (ZN.refl w lim _) (fun _ hs=>hs.elim) hdn rfl (fun j _=>rfl) (.inr ⟨⟨_,rfl⟩,if_pos rfl,rfl⟩) (fun i q hi hr=>(hnor i q hi hr).elim) ?_ (fun k b hk=>?_) (fun k k' b hk hk'=>?_) (hns:=fun k e1 xs1 b m1 m2 m3=>?_)
  ·refine ⟨b0,arr,ty,by rw [Zp,if_pos rfl];exact g1,g2,g3,by simp [g4],g5,fun y hy=>?_,fun j y u hy hju=>?_⟩
   ·obtain ⟨z,hz,rfl⟩:=List.mem_map.1 hy
    rcases g6 z hz with h | ⟨x,e,xs,rfl⟩ | rfl
    ·cases z<;>simp [AV.isCell] at h<;>exact .inl rfl
    ·exact .inr (.inr rfl)
    ·exact .inr (.inr rfl)
   ·rw [Zp,if_neg (by omega)]
    rw [List.getElem?_map] at hy
    cases hz:cs[j]? with
    | none => rw [hz] at hy; cases hy
    | some z =>
     rw [hz] at hy
     simp only [Option.map_some,Option.some.injEq] at hy
     subst hy
     have hc1:=g7 j z u hz hju
     rcases g6 z (List.mem_of_getElem? hz) with h | ⟨x,e,xs,rfl⟩ | rfl
     ·cases z<;>simp [AV.isCell] at h<;>exact hc1
     ·exact trivial
     ·exact trivial
  ·by_cases e1:k=0
   ·rw [if_pos e1] at hk
    exact ⟨(k1.ours d 0 b hk).1,(k1.ours d 0 b hk).2,fun a j ha hj=>ha (k1.dist a j d 0 b hj hk).1⟩
   ·rw [if_neg e1] at hk;cases hk
  ·by_cases e1:k=0<;>by_cases e2:k'=0
   ·omega
   ·rw [if_neg e2] at hk';cases hk'
   ·rw [if_neg e1] at hk;cases hk
   ·rw [if_neg e1] at hk;cases hk
  ·by_cases e1:k=0
   ·subst e1;cases m1
   ·rw [if_neg e1] at m3;cases m3
 rw [← Vr] at k3
 have hrun:(execOp (Act.eval ⟨tm,[]⟩) o).run P w = .ok (.value (.agg arr)) w:=by
  have hl:=J7 (P:=P) (w:=w) (b:=b0) (off:=0) (us:=arr.toList) hT (by rw [hal,hn]) (fun j u hj=>by rw [Zs g3,Nat.zero_add];simpa using hj)
  rw [Array.toArray_toList] at hl
  simp [execOp,ho,h2,hl]
 refine Zq hrun (hn' _ w ?_)
 cases hdst:o.dst with
 | none => exact ⟨lim, _, k3⟩
 | some d2 =>
  intro hd2' hm
  refine ⟨lim,_,k3.putRow (hns:=fun k e1 xs1 b m1 m2 m3=>by
   have hng:=hsim.ntN
   rw [Zk X1 _ (show ngN+b≠d by omega)]
   by_cases e1':k=0
   ·rw [if_pos e1'] at m3;cases m3
   ·rw [if_neg e1'] at m3
    refine k1.nst d k e1 xs1 b ?_ m2 m3
    rw [hds]
    cases k with
    | zero => omega
    | succ k => exact m1) (fun k => if k = 0 then none else X1 d k) (ZN.refl w lim (fun _ => False)) (fun _ hs => hs.elim) hd2' (tm' := tm.setIfInBounds d2 (.agg arr)) (by simp) (fun i hi => ZL tm d2 i _ hi)
   (.inl (ZD hm).1) (fun i q hi hr=>(k3.noRefs (ZD hm).none i q hi hr).elim) ?_ (fun k b hk=>?_) (fun k k' b hk hk'=>?_)⟩
  ·rw [Jz tm d2 _ (by rw [hsim.size];exact hd2')]
   refine ⟨arr.toList,by rw [Array.toArray_toList],hal,⟨g6,fun u hu=>?_⟩,fun j x u hx hu=>?_⟩
   ·obtain ⟨j,hj⟩:=List.mem_iff_getElem?.1 hu
    have hlt:j < cs.length:=by rw [← hal];exact (List.getElem?_eq_some_iff.1 hj).1
    have hr:=g7 j _ u (List.getElem?_eq_getElem hlt) (by simpa using hj)
    rcases g6 _ (List.getElem_mem hlt) with hx | ⟨x,e,xs,hx⟩ | hx
    ·generalize cs[j]=y at hr hx
     cases y<;>simp [AV.isCell] at hx<;>exact Rep.oneCell hr rfl
    ·rw [hx] at hr
     exact (ZQ.cells1 (show ZQ c.P w lim x e xs u _ from hr)).2
    ·exact (hwh _ (List.getElem_mem hlt) hx).elim
   ·rw [Zp,if_neg (by omega)]
    exact g7 j x u hx (by simpa using hu)
  ·by_cases e1:k=0
   ·rw [if_pos e1] at hk;cases hk
   ·rw [if_neg e1] at hk
    refine ⟨(k1.ours d k b hk).1,(k1.ours d k b hk).2,fun i j hi hij=>?_⟩
    by_cases hid:i=d
    ·subst hid
     rw [Zp] at hij
     by_cases ej:j=0
     ·rw [if_pos ej] at hij
      have:=(k1.dist i 0 i k b hij hk).2;omega
     ·rw [if_neg ej] at hij;cases hij
    ·rw [Zk X1 _ hid] at hij
     exact hid (k1.dist i j d k b hij hk).1
  ·by_cases e1:k=0<;>by_cases e2:k'=0
   ·omega
   ·rw [if_pos e1] at hk;cases hk
   ·rw [if_pos e2] at hk';cases hk'
   ·rw [if_neg e1] at hk;rw [if_neg e2] at hk'
    exact (k1.dist d k d k' b hk hk').2
end Go.AM
end

section
namespace Go.AM
def Zj2 (c:AV):AV:=match c with | .nest _ true e ys=>.own true e ys | c=>c
def ZpH (c:AV):Bool:=match c with | .nest _ false _ _=>false | _=>true
def ZlM (c:AV):Bool:=match c with | .nest _ true _ _=>true | _=>false
theorem ZkZ {z:AV} (h:z.isCell=true):(Zf8 z).isCell=true:=by
 unfold Zf8
 split
 ·rfl
 ·exact h
theorem ZmL {w:World} {lim:Nat→Nat} {z:AV} {v:Value} (h:Rep w lim z v):Rep w lim (Zf8 z) v:=by
 unfold Zf8
 split
 ·cases h
  exact .nest
 ·exact h
theorem Zn3 {z:AV} {s:Nat} {e:TypeId} {ys:List (List AV)} (h:Zf8 z = .nest s true e ys):False:=by
 unfold Zf8 at h
 split at h
 ·cases h
 ·rename_i hn
  exact hn _ _ _ h
theorem ZmP {z:AV} (h:ZlM z=true):∃ s e ys,z = .nest s true e ys:=by
 unfold ZlM at h
 split at h
 ·exact ⟨_,_,_,rfl⟩
 ·cases h
set_option maxHeartbeats 1000000 in
theorem V7 {P:Program} {o:Oper} {σ:Nat→AV} {T E:TypeId} {a:Operand} {d q i:Nat} {xs:List (List AV)} {row:List AV} (ho:o.op = .load T a) (hT:Z0 P T=some true) (ha:Zr P σ a = .eref d q (i*P.cellsOf (bT E)+0)) (hd:Zo (σ d) q=some (E,xs)) (hng:(σ d).isG=false)
  (hrow:xs[i]? = some row) (hn:P.cellsOf T=P.cellsOf (bT E)) (hdp:Zg P E=true) (hwh:∀ z∈row,ZpH z=true) :
  JA P o σ (.aggo (row.map Zj2)) [(d,Zn (σ d) q true E (Zw xs i 0 (row.map Zf8)))] [d]:=by
 intro c hc σ' tm w lim X hid hag hsim next Q hnx
 have hga:Zr P σ' a=Zr P σ a:=ZA fun t ht=>hid t (by simp [Zt (o:=o) (x:=a) (by rw [ho];simp [Op.operands]) ht])
 have hsd:σ' d=σ d:=hag d (by simp)
 have hd':Zo (σ' d) q=some (E,xs):=by rw [hsd,hd]
 have hva:=J0 hc hsim ha hga
 rw [← hc] at hva
 have hdp':Zg c.P E=true:=by rw [hc];exact hdp
 obtain ⟨b,arr,cap,g1,h3,g3,g4,g6,g7,g8,g9,g10,g11⟩:=KA hsim hd' hva (.inr hdp')
 have hbm:=Zcq hsim hd' g1 hdp'
 rw [hc] at g8 g9 h3
 obtain ⟨s,hs⟩:∃ s,s=P.cellsOf (bT E):=⟨_,rfl⟩
 rw [← hs] at g8 g9 h3 hn
 rw [Nat.add_zero] at h3
 have hxl:=Zl xs _ g9
 have hil:=(List.getElem?_eq_some_iff.1 hrow).1
 have hrl:=g9 row (List.mem_of_getElem? hrow)
 have hmul:i*s+s≤xs.length*s:=by
  rw [← Nat.succ_mul];exact Nat.mul_le_mul_right _ hil
 have hcap:xs.length*s≤cap*s:=Nat.mul_le_mul_right _ g6
 have hlen:(row.map Zf8).length=s:=by rw [List.length_map,hrl]
 have hcs:∀ z∈row.map Zf8,z.isCell=true:=fun z hz=>by
  obtain ⟨y,hy,rfl⟩:=List.mem_map.1 hz
  exact ZkZ (g10 row (List.mem_of_getElem? hrow) y hy)
 have hmem:=Yz (i:=i) (o:=0) g9 g10 (by rw [hlen];omega) hcs
 have hfl:=Jt (i:=i) (o:=0) (e:=row.map Zf8) g9 hil (by rw [hlen];omega)
 have hget:∀ j,(Zw xs i 0 (row.map Zf8)).flatten[j]? = if i*s≤j∧j < i*s+s then (row.map Zf8)[j-i*s]? else xs.flatten[j]?:=fun j=>by
  rw [hfl,Nat.add_zero,KQ _ _ _ (by rw [hlen,hxl];omega),hlen]
 have hrowat:∀ j,j < s→xs.flatten[i*s+j]? = row[j]?:=fun j hj=>JE xs _ g9 i row hrow j hj
 have hnst:=(hsim.nst d q E xs b (Z7 hd') hdp' g1).2
 have hset:=hsim.deepStep (w':=w) (lim':=lim) (E':=E) (xs':=Zw xs i 0 (row.map Zf8)) (Y':=fun j=>if i*s≤j∧j < i*s+s then none else X (ngN+b) j) hd' (by rw [hsd];exact hng) g1 (ZN.refl w lim _)
  (VI (.inr hdp') (by rw [← g1];exact hsim.deepB (Z7 hd')) g3 g3 rfl (by simp [Zw]) g4 (fun x hx=>by rw [hc,← hs];exact (hmem x hx).1) (fun x hx=>(hmem x hx).2) (fun j z u' hz' hu'=>by
   rw [hget] at hz'
   by_cases hj:i*s≤j∧j < i*s+s
   ·rw [if_pos hj,List.getElem?_map] at hz'
    have hr:=hrowat (j-i*s) (by omega)
    rw [show i*s+(j-i*s)=j by omega] at hr
    cases hz:row[j-i*s]? with
    | none => rw [hz] at hz'; cases hz'
    | some y =>
     rw [hz] at hz'
     simp only [Option.map_some,Option.some.injEq] at hz'
     subst hz'
     exact ZmL (g11 j y u' (hr.trans hz) hu')
   ·rw [if_neg hj] at hz';exact g11 j z u' hz' hu') (.inr ⟨hdp',rfl,hbm⟩))
  (by simp [Zw]) (.of rfl) (.inl rfl) (.mv (.inr (.inl hdp'))) (fun j b' hb'=>by
   by_cases hj:i*s≤j∧j < i*s+s
   ·rw [if_pos hj] at hb';cases hb'
   ·rw [if_neg hj] at hb';exact .inl ⟨j,hb'⟩) (fun j j' b' q1 q2=>by
   by_cases hj:i*s≤j∧j < i*s+s
   ·rw [if_pos hj] at q1;cases q1
   ·by_cases hj':i*s≤j'∧j' < i*s+s
    ·rw [if_pos hj'] at q2;cases q2
    ·rw [if_neg hj] at q1;rw [if_neg hj'] at q2;exact (hsim.dist _ j _ j' b' q1 q2).2)
  (fun _=>⟨⟨arr,g3⟩,fun j s1 e1 ys1 u' hz' hu'=>by
   rw [hget] at hz'
   by_cases hj:i*s≤j∧j < i*s+s
   ·rw [if_pos hj,List.getElem?_map] at hz'
    cases hz:row[j-i*s]? with
    | none => rw [hz] at hz'; cases hz'
    | some y =>
     rw [hz] at hz'
     simp only [Option.map_some,Option.some.injEq] at hz'
     exact (Zn3 hz').elim
   ·rw [if_neg hj] at hz'
    show _∧_∧WX c.P w lim true e1 ys1 u' (if i*s≤j∧j < i*s+s then none else X (ngN+b) j)
    rw [if_neg hj]
    exact hnst j s1 e1 ys1 u' hz' hu'⟩)
 rw [hsd] at hset
 obtain ⟨X1,hX1⟩:∃ X1,X1=KH X (ngN+b) fun j=>if i*s≤j∧j < i*s+s then none else X (ngN+b) j:=⟨_,rfl⟩
 rw [← hX1] at hset
 obtain ⟨us,hus⟩:∃ us:List Value,us=(arr.toList.drop (i*s)).take s:=⟨_,rfl⟩
 have hul:us.length=s:=by rw [hus];simp [g8];omega
 have huat:∀ (j:Nat) (u:Value),us[j]? = some u→j < s∧arr[i*s+j]? = some u:=fun j u hj=>by
  rw [hus,List.getElem?_take] at hj
  split at hj
  ·rename_i hlt
   rw [List.getElem?_drop] at hj
   exact ⟨hlt,by simpa using hj⟩
  ·cases hj
 have hrun:(execOp (Act.eval ⟨tm,[]⟩) o).run P w = .ok (.value (.agg us.toArray)) w:=by
  have hl:=J7 (P:=P) (w:=w) (b:=b) (off:=i*s) (us:=us) hT (by rw [hul,hn]) (fun j u hj=>by rw [Zs g3];exact (huat j u hj).2)
  simp [execOp,ho,h3,hl]
 refine Zq hrun (hnx _ w ?_)
 obtain ⟨ρr,hρ⟩:∃ r:Nat→Option Nat,r=fun k=>if k=0 then none else if (match row[k-1]? with | some z=>ZlM z | none=>false)=true then X (ngN+b) (i*s+(k-1)) else none:=⟨_,rfl⟩
 have hr0:ρr 0=none:=by rw [hρ];rfl
 have hrs:∀ k b',ρr k=some b'→∃ j,k=j+1∧j < s∧X (ngN+b) (i*s+j)=some b':=fun k b' hk=>by
  rw [hρ] at hk
  dsimp only at hk
  cases k with
  | zero => cases hk
  | succ j =>
   rw [if_neg (by omega),Nat.add_sub_cancel] at hk
   cases hz':row[j]? with
   | none => rw [hz'] at hk; cases hk
   | some z =>
    rw [hz'] at hk
    dsimp only at hk
    split at hk
    ·exact ⟨j,rfl,by rw [← hrl];exact (List.getElem?_eq_some_iff.1 hz').1,hk⟩
    ·cases hk
 cases hdst:o.dst with
 | none => exact ⟨lim, _, hset⟩
 | some d2 =>
  intro hd2' hm
  have hcell:∀ (j:Nat) (x:AV) (u:Value),(row.map Zj2)[j]? = some x→us[j]? = some u→JW c.P w lim (ρr (j+1)) x u:=fun j x u hx hu=>by
   obtain ⟨hjs,hua⟩:=huat j u hu
   rw [List.getElem?_map] at hx
   cases hz:row[j]? with
   | none => rw [hz] at hx; cases hx
   | some z =>
    rw [hz] at hx
    simp only [Option.map_some,Option.some.injEq] at hx
    subst hx
    have hflat:=(hrowat j hjs).trans hz
    cases hnz:ZlM z with
    | true =>
     obtain ⟨s1,e1,ys1,rfl⟩:=ZmP hnz
     obtain ⟨_,n2,n3⟩:=hnst (i*s+j) s1 e1 ys1 u hflat (by rw [Zs g3];exact hua)
     have hrj:ρr (j+1)=X (ngN+b) (i*s+j):=by
      rw [hρ]
      dsimp only
      rw [if_neg (by omega),Nat.add_sub_cancel,hz]
      rfl
     rw [hrj]
     exact n3.own
    | false =>
     have hrep:=g11 (i*s+j) z u hflat hua
     have hw0:=hwh z (List.mem_of_getElem? hz)
     have hic:=g10 row (List.mem_of_getElem? hrow) z (List.mem_of_getElem? hz)
     have:Zj2 z=z:=by
      unfold Zj2
      split
      ·cases hnz
      ·rfl
     rw [this]
     cases z<;>first | exact hrep | (simp [AV.isCell] at hic;done)
  refine ⟨lim,_,hset.putRow ρr (ZN.refl w lim (fun _=>False)) (fun _ hs=>hs.elim) hd2' (tm':=tm.setIfInBounds d2 (.agg us.toArray)) (by simp) (fun i hi=>ZL tm d2 i _ hi)
   (.inl (ZD hm).1) (fun i q hi hr=>(hset.noRefs (ZD hm).none i q hi hr).elim) ?_ (fun k b' hk=>?_) (fun k k' b' hk hk'=>?_) (hns:=fun k e1 xs1 b1 m1 m2 m3=>?_)⟩
  ·rw [Jz tm d2 _ (by rw [hsim.size];exact hd2')]
   refine ⟨us,rfl,by rw [hul,List.length_map,hrl],⟨fun x hx=>?_,fun u hu=>?_⟩,fun j x u hx hu=>?_⟩
   ·obtain ⟨z,hz,rfl⟩:=List.mem_map.1 hx
    have hic:=g10 row (List.mem_of_getElem? hrow) z hz
    unfold Zj2
    split
    ·exact .inr (.inl ⟨_,_,_,rfl⟩)
    ·exact .inl hic
   ·obtain ⟨j,hj⟩:=List.mem_iff_getElem?.1 hu
    obtain ⟨hjs,hua⟩:=huat j u hj
    obtain ⟨z,hz⟩:∃ z,row[j]? = some z:=⟨row[j]'(by omega),List.getElem?_eq_getElem (by omega)⟩
    exact (g11 (i*s+j) z u ((hrowat j hjs).trans hz) hua).oneCell (g10 row (List.mem_of_getElem? hrow) z (List.mem_of_getElem? hz))
   ·rw [Zp]
    exact hcell j x u hx hu
  ·obtain ⟨j,rfl,hjs,hb'⟩:=hrs k b' hk
   refine ⟨(hsim.ours _ _ b' hb').1,(hsim.ours _ _ b' hb').2,fun i' j' hi' hij=>?_⟩
   rw [hX1] at hij
   by_cases e:i'=ngN+b
   ·subst e
    rw [Zp] at hij
    by_cases hj:i*s≤j'∧j' < i*s+s
    ·rw [if_pos hj] at hij;cases hij
    ·rw [if_neg hj] at hij
     have:=(hsim.dist _ j' _ _ b' hij hb').2
     omega
   ·rw [Zk X _ e] at hij
    exact e (hsim.dist i' j' _ _ b' hij hb').1
  ·obtain ⟨j,rfl,hjs,hb1⟩:=hrs k b' hk
   obtain ⟨j',rfl,hjs',hb2⟩:=hrs k' b' hk'
   have:=(hsim.dist _ _ _ _ b' hb1 hb2).2
   omega
  ·exfalso
   cases k with
   | zero => cases m1
   | succ k =>
    have hk:(row.map Zj2)[k]? = some (.own true e1 xs1):=by
     simp only [ZX] at m1
     split at m1
     ·rename_i e2 xs2 he
      simp only [Option.some.injEq,Prod.mk.injEq] at m1
      rw [he,m1.1,m1.2]
     ·cases m1
    rw [List.getElem?_map] at hk
    cases hz:row[k]? with
    | none => rw [hz] at hk; cases hk
    | some z =>
     rw [hz] at hk
     simp only [Option.map_some,Option.some.injEq] at hk
     have hks:k < s:=by rw [← hrl];exact (List.getElem?_eq_some_iff.1 hz).1
     have hic:=g10 row (List.mem_of_getElem? hrow) z (List.mem_of_getElem? hz)
     have hzn:∃ s1,z = .nest s1 true e1 xs1:=by
      unfold Zj2 at hk
      split at hk
      ·cases hk
       exact ⟨_,rfl⟩
      ·rw [hk] at hic
       simp [AV.isCell] at hic
     obtain ⟨s1,rfl⟩:=hzn
     obtain ⟨u,hu⟩:∃ u,arr[i*s+k]? = some u:=⟨arr[i*s+k]'(by omega),Array.getElem?_eq_getElem (by omega)⟩
     have:=(hnst (i*s+k) s1 e1 xs1 u ((hrowat k hks).trans hz) (by rw [Zs g3];exact hu)).2.1
     rw [ZT this] at m2
     cases m2
theorem VR {P:Program} {o:Oper} {σ:Nat→AV} {T E:TypeId} {a:Operand} {d q i:Nat} {xs:List (List AV)} {row:List AV} (ho:o.op = .load T a) (hT:Z0 P T=some true) (ha:Zr P σ a = .eref d q (i*P.cellsOf (bT E)+0)) (hd:Zo (σ d) q=some (E,xs)) (hng:(σ d).isG=false)
  (hrow:xs[i]? = some row) (hn:P.cellsOf T=P.cellsOf (bT E)) (hdp:Zg P E=true) (hwh:∀ z∈row.take (P.cellsOf T),ZpH z=true) :
  JA P o σ (.aggo ((row.take (P.cellsOf T)).map Zj2)) [(d,Zn (σ d) q true E (Zw xs i 0 (row.map Zf8)))] [d]:=by
 intro c hc σ' tm w lim X hid hag hsim next Q hnx
 have hga:Zr P σ' a=Zr P σ a:=ZA fun t ht=>hid t (by simp [Zt (o:=o) (x:=a) (by rw [ho];simp [Op.operands]) ht])
 have hd':Zo (σ' d) q=some (E,xs):=by rw [hag d (by simp),hd]
 have hva:=J0 hc hsim ha hga
 rw [← hc] at hva
 obtain ⟨_,_,_,_,_,_,_,_,_,_,g9,_⟩:=KA hsim hd' hva (.inr (by rw [hc];exact hdp))
 have hrl:=g9 row (List.mem_of_getElem? hrow)
 rw [hc,← hn] at hrl
 have hrt:row.take (P.cellsOf T)=row:=List.take_of_length_le (by omega)
 rw [hrt] at hnx hwh
 exact V7 ho hT ha hd hng hrow hn hdp hwh c hc σ' tm w lim X hid hag hsim next Q hnx
theorem Zlr {xs:List (List AV)} {i:Nat} {row:List AV} (hr:xs[i]? = some row):Zm7 xs i=Zw xs i 0 (row.map Zf8):=by
 unfold Zm7 Zw
 refine List.ext_getElem? fun j=>?_
 rw [List.getElem?_modify,List.getElem?_modify]
 by_cases hj:i=j
 ·subst hj
  rw [hr]
  simp [setCells]
 ·simp only [if_neg hj]
theorem ZaE {P:Program} {o:Oper} {σ:Nat→AV} {T:TypeId} {a:Operand} {d:Nat} {cs:List AV} (ho:o.op = .load T a) (hT:Z0 P T=some true) (ha:Zr P σ a = .ptr d 0) (hd:σ d = .box cs) (hn:cs.length=P.cellsOf T) (hwh:Whole cs) :
  JA P o σ (.aggo (cs.map ZjQ)) [] [d]:=by
 intro c hc σ' tm w lim X hid hag hsim next Q hnx
 have hg:Zr P σ' a=Zr P σ a:=ZA fun t ht=>hid t (by simp [Zt (o:=o) (x:=a) (by rw [ho];simp [Op.operands]) ht])
 have hv:=J0 hc hsim ha hg
 have hd':σ' d = .box cs:=by rw [hag d (by simp),hd]
 rw [← hc] at hv
 obtain ⟨b,h1,h2,h3⟩:=Ko hsim hd' hv
 obtain ⟨b0,arr,ty,g1,g2,g3,g4,g5,g6,g7⟩:=h3
 have hb0:b0=b:=by rw [g1] at h1;exact Option.some.inj h1
 subst hb0
 have hal:arr.toList.length=cs.length:=by simpa using g4
 have hrun:(execOp (Act.eval ⟨tm,[]⟩) o).run P w = .ok (.value (.agg arr)) w:=by
  have hl:=J7 (P:=P) (w:=w) (b:=b0) (off:=0) (us:=arr.toList) hT (by rw [hal,hn]) (fun j u hj=>by rw [Zs g3,Nat.zero_add];simpa using hj)
  rw [Array.toArray_toList] at hl
  simp [execOp,ho,h2,hl]
 refine Zq hrun (hnx _ w ?_)
 cases hdst:o.dst with
 | none => exact ⟨lim, X, hsim⟩
 | some d2 =>
  intro hd2' hm
  refine ⟨lim,_,hsim.putRow (fun _=>none) (ZN.refl w lim (fun _=>False)) (fun _ hs=>hs.elim) hd2' (tm':=tm.setIfInBounds d2 (.agg arr)) (by simp) (fun i hi=>ZL tm d2 i _ hi)
   (.inl (ZD hm).1) (fun i q hi hr=>(hsim.noRefs (ZD hm).none i q hi hr).elim) ?_ (fun k b' hk=>by cases hk) (fun k k' b' hk _=>by cases hk) (hns:=fun k e1 xs1 b1 m1 m2 m3=>by cases m3)⟩
  rw [Jz tm d2 _ (by rw [hsim.size];exact hd2')]
  refine ⟨arr.toList,by rw [Array.toArray_toList],by rw [hal,List.length_map],⟨fun x hx=>?_,fun u hu=>?_⟩,fun j x u hx hu=>?_⟩
  ·obtain ⟨z,hz,rfl⟩:=List.mem_map.1 hx
   rcases g6 z hz with h | ⟨x,e,xs,rfl⟩ | rfl
   ·cases z<;>simp [AV.isCell] at h<;>exact .inl rfl
   ·exact .inr (.inr rfl)
   ·exact .inr (.inr rfl)
  ·obtain ⟨j,hj⟩:=List.mem_iff_getElem?.1 hu
   have hlt:j < cs.length:=by rw [← hal];exact (List.getElem?_eq_some_iff.1 hj).1
   have hr:=g7 j _ u (List.getElem?_eq_getElem hlt) (by simpa using hj)
   rcases g6 _ (List.getElem_mem hlt) with hx | ⟨x,e,xs,hx⟩ | hx
   ·generalize cs[j]=y at hr hx
    cases y<;>simp [AV.isCell] at hx<;>exact Rep.oneCell hr rfl
   ·rw [hx] at hr
    exact (ZQ.cells1 (show ZQ c.P w lim x e xs u _ from hr)).2
   ·exact (hwh _ (List.getElem_mem hlt) hx).elim
  ·rw [List.getElem?_map] at hx
   cases hz:cs[j]? with
   | none => rw [hz] at hx; cases hx
   | some z =>
    rw [hz] at hx
    simp only [Option.map_some,Option.some.injEq] at hx
    subst hx
    have hc1:=g7 j z u hz (by simpa using hu)
    rcases g6 z (List.mem_of_getElem? hz) with h | ⟨x,e,xs,rfl⟩ | rfl
    ·cases z<;>simp [AV.isCell] at h<;>exact hc1
    ·exact trivial
    ·exact trivial
def Ya (z:Int):List AV:=[.val (.int .i64 z)]
def Wv (P:Program) (srt:List FuncId):Prop:=
 ∀ f∈srt,Callable P f∧(∀ (p:Option Addr) (cap:Nat) (w:World),Calls P f #[.slice p 0 cap] w fun e w'=>e = .returned (.tuple #[])∧w'=w)∧
  ∀ (w:World) (lim:Nat→Nat) (b cap:Nat) (arr:Array Value) (e:TypeId) (zs:List Int),zs≠[]→zs.length≤1048576→zs.length≤cap→cap≤maxLen→arr.size=cap→w.heap[b]? = some (.cells arr e (0,0))→lim b=0→arr.toList.take zs.length=zs.map (Value.int .i64)→
   Calls P f #[.slice (some ⟨b,0,none⟩) zs.length cap] w fun e' w'=>e' = .returned (.tuple #[])∧∃ arr',w'.heap[b]? = some (.cells arr' e (0,0))∧arr'.size=arr.size∧
    arr'.toList.take zs.length=(zs.mergeSort fun x y=>decide (x≤y)).map (Value.int .i64)∧ZN w lim w' lim (fun b'=>b'=b)
theorem ZjS {l:List (List AV)} (h:l.all ZeE=true):∃ zs:List Int,l=zs.map Ya:=by
 induction l with
 | nil => exact ⟨[], rfl⟩
 | cons r l ih =>
  rw [List.all_cons,Bool.and_eq_true] at h
  obtain ⟨zs,rfl⟩:=ih h.2
  have h1:=h.1
  unfold ZeE at h1
  split at h1
  ·rename_i z
   exact ⟨z::zs,rfl⟩
  ·cases h1
theorem Zdc (zs:List Int):Zem (zs.map Ya)=(zs.mergeSort fun x y=>decide (x≤y)).map Ya:=by
 have:(zs.map Ya).filterMap ZV=zs:=by
  induction zs with
  | nil => rfl
  | cons z zs ih => rw [List.map_cons, List.filterMap_cons_some (f := ZV) (a := Ya z) (b := z) rfl, ih]
 unfold Zem
 rw [this]
 rfl
theorem Ze2 (zs:List Int):(zs.map Ya).flatten=zs.map fun z=>AV.val (.int .i64 z):=ZbV zs
theorem ZeK {P:Program} {w:World} {lim:Nat→Nat} {x:Bool} {e:TypeId} {xs:List (List AV)} {v:Value} {ob:Option Nat} (h:ZQ P w lim x e xs v ob) (hne:xs≠[]) (hnm:Zm P e=false) :
  ∃ b arr cap,ob=some b∧v = .slice (some ⟨b,0,none⟩) xs.length cap∧w.heap[b]? = some (.cells arr e (0,0))∧xs.length≤cap∧cap≤maxLen∧arr.size=cap*P.cellsOf e∧
   (∀ x∈xs,x.length=P.cellsOf e)∧(∀ x∈xs,∀ z∈x,z.isCell=true)∧(∀ (j:Nat) (z:AV) (u:Value),xs.flatten[j]? = some z→arr.toList[j]? = some u→Rep w lim z u)∧(∀ b',ob=some b'→x=true→lim b'=0):=by
 rcases h.noMap hnm with ⟨us,h1,h2,h3,h4,h5,h6⟩ | ⟨h,_⟩
 ·rcases h1.2 with ⟨hv,hn⟩ | ⟨g,cap,cur,hv,hbg,hg,hnc,hcm,hcs,htake⟩
  ·exact (hne (List.eq_nil_of_length_eq_zero hn)).elim
  ·refine ⟨g,cur,cap,by rw [← h2,hv];rfl,hv,hg,hnc,hcm,hcs,h4,h5,fun j z u hz hu=>h6 j z u hz ?_,fun b' hb' hx=>by rw [h3 b' hb',if_pos hx]⟩
   have hj:=(List.getElem?_eq_some_iff.1 hz).1
   rw [Zl xs _ h4] at hj
   rw [← htake,List.getElem?_take,if_pos hj]
   exact hu
 ·exact (hne h).elim
theorem ZmW {P:Program} {o:Oper} {σ:Nat→AV} {srt:List FuncId} {f:FuncId} {cl:Call} {x:Operand} {d:Nat} {e:TypeId} {zs:List Int} (hsrt:Wv P srt) (hf:f∈srt) (ho:o.op = .call cl) (hcl:cl.callee = .value (.func f)) (hargs:cl.args.toList = [x])
  (hx:Zr P σ x = .mref d 0) (hd:σ d = .own true e (zs.map Ya)) (h1:P.cellsOf e=1) (hnm:Zm P e=false) (hlen:zs.length≤1048576) :
  JA P o σ .dead [(d,.own true e (Zem (zs.map Ya)))] [d]:=by
 intro c hc σ' tm w lim X hid hag hsim next Q hn
 have hargs':cl.args = #[x]:=by apply Array.toList_inj.1;rw [hargs]
 have hgx:Zr P σ' x=Zr P σ x:=ZA fun t ht=>hid t (Zt (x:=x) (by rw [ho];simp [Op.operands,Call.operands,hcl,hargs']) ht)
 have hv:=J0 hc hsim hx hgx
 have hsd:σ' d=σ d:=hag d (by simp)
 have hd':σ' d = .own true e (zs.map Ya):=by rw [hsd,hd]
 rw [← hc] at hv
 have hnm':Zm c.P e=false:=by rw [hc];exact hnm
 obtain ⟨e',xs',m1,m2⟩:=hv
 rw [hd'] at m1
 simp only [Zo,Option.some.injEq,Prod.mk.injEq] at m1
 obtain ⟨rfl,rfl⟩:=m1
 obtain ⟨k1,k2,k3⟩:=hsrt f hf
 have hown:=hsim.rel d
 rw [hd'] at hown
 have hown:ZQ c.P w lim true e (zs.map Ya) (tm.getD d undef) (X d 0):=hown
 have hdn:d < c.nt:=Yl hsim (by rw [hd'];exact fun h=>by cases h) (by rw [hd'];rfl)
 have hnil:zs = []→(tm.getD d undef=tm.getD d undef)→Sim c (upd σ' d (.own true e (Zem (zs.map Ya)))) tm w lim X:=fun hz _=>by
  have:upd σ' d (.own true e (Zem (zs.map Ya)))=σ':=by
   funext i
   by_cases hi:i=d
   ·subst hi;rw [ZC,hd',hz];simp [Zem]
   ·rw [Zf _ _ hi]
  rw [this]
  exact hsim
 unfold Oper.wp
 by_cases hz:zs = []
 ·have hvx:∃ p cap,Act.eval ⟨tm,[]⟩ x = .slice p 0 cap:=by
   rcases m2.noMap hnm' with ⟨_,_,h | ⟨a,h⟩⟩ | ⟨b,arr,cap,_,_,_,h⟩
   ·exact ⟨_,_,h⟩
   ·exact ⟨_,_,h⟩
   ·rw [hz] at h;exact ⟨_,_,h⟩
  obtain ⟨p,cap,hvx⟩:=hvx
  rw [ZaU ho hcl hargs k1 hvx,Oper.upon_enter]
  refine (k2 p cap w).mono ?_
  rintro e1 w' ⟨rfl,rfl⟩
  exact hn _ _ (Zy (hnil hz rfl) rfl (k:=0) trivial)
 ·have hxs:zs.map Ya≠[]:=by simpa using hz
  obtain ⟨b,arr,cap,hXd,hvd,hg,hnc,hcm,hcs,hxl,hxc,hxr,hlim⟩:=ZeK hown hxs hnm'
  have hlb:lim b=0:=hlim b hXd rfl
  have hvx:Act.eval ⟨tm,[]⟩ x = .slice (some ⟨b,0,none⟩) zs.length cap:=by
   rcases m2.noMap hnm' with ⟨h,_⟩ | ⟨b',arr',cap',q1,q2,q3,q4⟩
   ·rw [hXd] at h;cases h
   ·rw [hXd] at q1
    cases q1
    rw [hg] at q2
    cases q2
    rw [hc,h1] at q3 hcs
    rw [q4,List.length_map,show cap'=cap by omega]
  rw [List.length_map] at hnc
  rw [hc,h1,Nat.mul_one] at hcs
  have htake:arr.toList.take zs.length=zs.map (Value.int .i64):=by
   apply List.ext_getElem?
   intro j
   rw [List.getElem?_take,List.getElem?_map]
   split
   ·rename_i hj
    have hja:j < arr.size:=by omega
    have hr:=hxr j (.val (.int .i64 zs[j])) arr[j] (by rw [Ze2,List.getElem?_map,List.getElem?_eq_getElem hj];rfl) (by simp [hja])
    rw [List.getElem?_eq_getElem hj,Option.map_some,← KN hr]
    simp [hja]
   ·rename_i hj
    rw [List.getElem?_eq_none (by omega)]
    rfl
  rw [ZaU ho hcl hargs k1 hvx,Oper.upon_enter]
  refine (k3 w lim b cap arr e zs hz hlen hnc hcm hcs hg hlb htake).mono ?_
  rintro e1 w' ⟨rfl,arr',n1,n2,n3,n4⟩
  obtain ⟨ss,hss⟩:∃ ss,ss=zs.mergeSort fun x y=>decide (x≤y):=⟨_,rfl⟩
  have hsl:ss.length=zs.length:=by rw [hss];exact List.length_mergeSort zs
  rw [← hss] at n3
  have hnew:∀ v,ZQ c.P w lim true e (zs.map Ya) v (some b)→ZQ c.P w' lim true e (ss.map Ya) v (some b):=fun v hv=>by
   obtain ⟨b2,arr2,cap2,p1,p2,p3,p4,p5,p6,_,_,_,_⟩:=ZeK hv hxs hnm'
   cases p1
   rw [hg] at p3
   cases p3
   rw [hc,h1,Nat.mul_one] at p6
   rw [p2,show (zs.map Ya).length=(ss.map Ya).length by rw [List.length_map,List.length_map,hsl]]
   refine KK n1 hlb (by rw [List.length_map,hsl];omega) p5 (by rw [hc,h1,Nat.mul_one,n2,p6]) (fun r hr=>?_) (fun r hr y hy=>?_) fun j y u hy hu=>?_
   ·obtain ⟨z,_,rfl⟩:=List.mem_map.1 hr
    rw [hc,h1];rfl
   ·obtain ⟨z,_,rfl⟩:=List.mem_map.1 hr
    rw [List.mem_singleton.1 hy];rfl
   ·rw [Ze2,List.getElem?_map] at hy
    cases hzj:ss[j]? with
    | none => rw [hzj] at hy; cases hy
    | some z =>
     rw [hzj] at hy
     simp only [Option.map_some,Option.some.injEq] at hy
     subst hy
     have hj:j < zs.length:=by rw [← hsl];exact (List.getElem?_eq_some_iff.1 hzj).1
     have h3:=congrArg (·[j]?) n3
     simp only [List.getElem?_take,if_pos hj,List.getElem?_map,hzj,Option.map_some] at h3
     have:u = .int .i64 z:=by
      have hu':arr'.toList[j]? = some u:=by simpa using hu
      rw [hu'] at h3
      exact Option.some.inj h3
     rw [this]
     exact .val rfl
  have hdf:d < ngN:=Nat.lt_of_lt_of_le hdn hsim.ntN
  have hset:=hsim.deepStep (w':=w') (lim':=lim) (k:=0) (E':=e) (xs':=ss.map Ya) (Y':=X (ngN+b)) (by rw [hd'];rfl) (by rw [hd'];rfl) hXd (n4.sub fun _ h=>.inl h) hnew (by simp [hsl])
   ⟨fun arr0 t0 h0=>by
    rw [hg] at h0
    cases h0
    exact ⟨arr',n1,n2⟩,fun es cl hm0=>by rw [hg] at hm0;cases hm0⟩ (.inl rfl) (.mv (.inl hnm')) (fun j b' hb'=>.inl ⟨j,hb'⟩) (fun j j' b' q1 q2=>(hsim.dist _ j _ j' b' q1 q2).2)
   (fun hdp=>by rw [ZT hnm'] at hdp;cases hdp)
  have he:Zn (σ' d) 0 true e (ss.map Ya) = .own true e (Zem (zs.map Ya)):=by rw [hd',Zdc,hss];rfl
  rw [he] at hset
  exact hn _ _ (Zy hset rfl (k:=0) trivial)
end Go.AM
end

section
namespace Go.AM
open Go.MapKept
theorem Zc0 {P:Program} {T:TypeId} {z:Value} (h:Kq P T=some z):∃ kt vt i,P.underlying T=some (.map kt vt)∧P.underlying kt=some (.int .i64)∧P.info? vt=some i∧i.zero=some z∧J2 z z=true:=by
 unfold Kq at h
 split at h
 ·rename_i kt vt hT
  split at h
  ·rename_i i h1 h2
   split at h
   ·rename_i b hz
    cases h
    exact ⟨kt,vt,i,hT,h1,h2,hz,rfl⟩
   ·rename_i k z0 hz
    cases h
    exact ⟨kt,vt,i,hT,h1,h2,hz,by simp [J2]⟩
   ·cases h
  ·cases h
 ·cases h
theorem Y5 {u z:Value} (h:J2 u z=true):ZbI u=true:=by
 cases u<;>cases z<;>simp [J2] at h<;>rfl
theorem Zg4 {c:Ctx} {σ:Nat→AV} {tm:Array Value} {w:World} {lim:Nat→Nat} {X:Nat→Nat→Option Nat} (h:Sim c σ tm w lim X) {d:Nat} {e:TypeId} {kvs:List (List AV)} {z:Value} (hd:σ d = .own true e [[.slice false 2 kvs]]) (h0:c.P.cellsOf e=0) (hz:Kq c.P (e-1048576)=some z) (hk:Jj c.P (e-1048576)=none) (hlt:e < 2097152) :
  ∃ b es clock,X d 0=some b∧tm.getD d undef = .map (some b)∧w.heap[b]? = some (.map es clock)∧lim b=0∧es.size=kvs.length∧Stamped es clock∧
   ∀ (i:Nat) (en:MapEntry) (row:List AV),es[i]? = some en→kvs[i]? = some row→∃ (k:Int) (u:Value),row = [.val (.int .i64 k),.val u]∧en.key = .int .i64 k∧en.val=u∧J2 u z=true:=by
 have hr:=h.rel d
 rw [hd] at hr
 rcases (show ZQ c.P w lim true e _ _ (X d 0) from hr) with ⟨us,_,_,_,h4,_⟩ | ⟨h1,_⟩ | ⟨_,⟨_,_,_,_,_,_,het,_⟩ | ⟨hd',_⟩ | ⟨_,b,es,clock,kvs',z',⟨hz',_,_⟩,h1,h2,h3,h4,h5,h6,h7,h8⟩⟩
 ·have:=h4 _ (List.mem_singleton.2 rfl)
  rw [h0] at this
  cases this
 ·cases h1
 ·rw [hk] at het;cases het
 ·rw [Yg hlt] at hd';cases hd'
 ·simp only [List.cons.injEq,AV.slice.injEq,true_and,and_true] at h5
  subst h5
  rw [hz] at hz'
  cases hz'
  exact ⟨b,es,clock,h1,h2,h3,h4,h6,h7,h8⟩
theorem ZnY {c:Ctx} {σ:Nat→AV} {tm:Array Value} {w:World} {lim:Nat→Nat} {X:Nat→Nat→Option Nat} (h:Sim c σ tm w lim X) {d k:Nat} {e:TypeId} {kvs:List (List AV)} {z:Value} (hd:σ d = .own true e [[.slice false 2 kvs]]) (h0:c.P.cellsOf e=0) (hz:Kq c.P (e-1048576)=some z) (hk:Jj c.P (e-1048576)=none) (hlt:e < 2097152) {v:Value}
  (hv:ZP c.P w lim X σ k (.mref d 0) v):v=tm.getD d undef:=by
 obtain ⟨b,es,clock,h1,h2,h3,_⟩:=Zg4 h hd h0 hz hk hlt
 obtain ⟨e',xs',m1,m2⟩:=hv
 rw [hd] at m1
 simp only [Zo,Option.some.injEq,Prod.mk.injEq] at m1
 obtain ⟨rfl,rfl⟩:=m1
 rcases m2 with ⟨m2,_⟩ | ⟨b',arr,cap,m2,m3,_⟩ | ⟨_,_,b',arr,cap,m2,m3,_⟩ | ⟨_,_,b',es',clock',m2,m3,m4⟩
 ·rw [h1] at m2;cases m2
 ·rw [h1] at m2;cases m2;rw [h3] at m3;cases m3
 ·rw [h1] at m2;cases m2;rw [h3] at m3;cases m3
 ·rw [h1] at m2;cases m2;rw [m4,h2]
theorem Zeh {P:Program} {o:Oper} {σ:Nat→AV} {T:TypeId} {z:Value} (ho:o.op = .makeMap T none) (hz:Kq P T=some z) (hk:Jj P T=none) (hlt:T+1048576 < 2097152):JA P o σ (.own true (T+1048576) [[.slice false 2 []]]) [] []:=by
 intro c hc σ' tm w lim X hid hag hsim next Q hn
 have hstep:=Zf5 (w:=w) (lim:=lim) (.map #[] 0) (fun _=>False)
 have hw2:=hsim.world hstep fun _ hs=>hs.elim
 have hnew:(w.alloc (.map #[] 0)).heap[w.heap.size]? = some (.map #[] 0):=heap_alloc_new w _
 refine Zq (v:=.map (some w.heap.size)) (w':=w.alloc (.map #[] 0)) ?_ (hn _ _ (Z8 (ob:=some w.heap.size) hw2 (.inr (.inr ⟨rfl,.inr (.inr ⟨by simp [Zm],w.heap.size,#[],0,[],z,⟨by rw [Nat.add_sub_cancel,hc];exact hz,by rw [Nat.add_sub_cancel,hc];exact hk,hlt⟩,rfl,rfl,hnew,if_pos rfl,rfl,rfl,stamped_empty 0,fun i en row h=>by simp at h⟩)⟩)) (fun b hb=>?_) (fun _=>.mv (.inr (.inr (.inl rfl)))) fun _ hd=>by rw [Yg hlt] at hd;cases hd))
 ·have hr:(Instr.makeMap T none).run P w = .ok (.map (some w.heap.size)) (w.alloc (.map #[] 0)):=rfl
  simp only [execOp,ho,Option.map_none,hr,Sem.run_bind,Result.andThen_ok,Sem.run_pure]
 ·cases hb
  exact ⟨.inr hsim.frm.size,fun i j=>YT hsim i j⟩
theorem ZeG {c:Ctx} {σ:Nat→AV} {tm:Array Value} {w:World} {lim:Nat→Nat} {X:Nat→Nat→Option Nat} (h:Sim c σ tm w lim X) {d:Nat} {e T:TypeId} {kvs:List (List AV)} {z:Value} (hd:σ d = .own true e [[.slice false 2 kvs]]) (h0:c.P.cellsOf e=0) (he:e=T+1048576) (hz:Kq c.P T=some z) (hk:Jj c.P T=none) (hlt:e < 2097152) (k:Int) (ok:Bool) :
  ∃ u f,Zbx [[.slice false 2 kvs]] k [.val z] = [[.val u,.val (.bool f)]]∧J2 u z=true∧(Instr.lookup T (tm.getD d undef) (.int .i64 k) ok).run c.P w = .ok (if ok=true then .tuple #[u,.bool f] else u) w:=by
 have hz':Kq c.P (e-1048576)=some z:=by rw [he,Nat.add_sub_cancel];exact hz
 have hk':Jj c.P (e-1048576)=none:=by rw [he,Nat.add_sub_cancel];exact hk
 obtain ⟨b,es,clock,hX,hv,hb,hlb,hl,hs,hr⟩:=Zg4 h hd h0 hz' hk' hlt
 obtain ⟨kt,vt,i,hT,hkt,hi,hzz,hsc⟩:=Zc0 hz
 obtain ⟨_,hfind⟩:=ZbS hl hs (fun i en row h1 h2=>by obtain ⟨k,u,g1,g2,_⟩:=hr i en row h1 h2;exact ⟨k,_,g1,g2⟩) k
 have hzr:(zeroValue vt).run c.P w = .ok z w:=by simp [zeroValue,typeInfo,run_program,hi,hzz]
 rcases hfind with ⟨h1,_,h2⟩ | ⟨j,en,row,h1,h2,h3,h4,h5,h6,h7⟩
 ·have hgn:kvs.find? (fun r=>ZV r == some k)=none:=List.find?_eq_none.2 fun r hr=>by simpa using h2 r hr
  refine ⟨z,false,by simp [Zbx,JJ,hgn],hsc,?_⟩
  ·rw [hv]
   cases ok<;>simp [Instr.lookup,run_underlying hT,MapKept.run_getObj_map hb,MapKept.run_checkKey hkt (JP k),MapKept.run_findKey hkt h1,hzr,Result.andThen]
 ·obtain ⟨k2,u,p1,p2,p3,p4⟩:=hr j en row h2 h3
  refine ⟨u,true,by simp [Zbx,JJ,h6,p1],p4,?_⟩
  rw [hv,← p3]
  cases ok<;>simp [Instr.lookup,run_underlying hT,MapKept.run_getObj_map hb,MapKept.run_checkKey hkt (JP k),MapKept.run_findKey hkt h1,Result.andThen]
theorem ZeH {P:Program} {o:Oper} {σ:Nat→AV} {T e:TypeId} {m kx:Operand} {d:Nat} {kvs:List (List AV)} {k:Int} {z u:Value} {f:Bool} (ho:o.op = .lookup T m kx false) (hz:Kq P T=some z) (hk:Jj P T=none) (hlt:e < 2097152) (hm:Zr P σ m = .mref d 0) (hd:σ d = .own true e [[.slice false 2 kvs]]) (h0:P.cellsOf e=0) (he:e=T+1048576)
  (hkx:Zr P σ kx = .val (.int .i64 k)) (hrow:Zbx [[.slice false 2 kvs]] k [.val z] = [[.val u,.val (.bool f)]]):JA P o σ (.val u) [] [d]:=by
 refine ZE [d] rfl fun c hc σ' tm w lim X hg hfp hsim=>?_
 subst hc
 rw [ho] at hg
 have hv:=J0 rfl hsim hm (hg m (by simp [Op.operands]))
 have hkv:=Z1 rfl hsim hkx (hg kx (by simp [Op.operands]))
 have hd':σ' d = .own true e [[.slice false 2 kvs]]:=by rw [hfp d (by simp),hd]
 have hmv:=ZnY hsim hd' h0 (by rw [he,Nat.add_sub_cancel];exact hz) (by rw [he,Nat.add_sub_cancel];exact hk) hlt hv
 obtain ⟨u',f',g1,g2,g3⟩:=ZeG hsim hd' h0 he hz hk hlt k false
 rw [hrow] at g1
 simp only [List.cons.injEq,AV.val.injEq,Value.bool.injEq,and_true] at g1
 obtain ⟨rfl,rfl⟩:=g1
 rw [if_neg (by simp)] at g3
 refine ⟨u,?_,.val (Y5 g2)⟩
 simp only [execOp,ho,hmv,hkv,g3,Sem.run_bind,Result.andThen_ok,Sem.run_pure]
theorem ZbT {P:Program} {o:Oper} {σ:Nat→AV} {T e:TypeId} {m kx:Operand} {d:Nat} {kvs:List (List AV)} {k:Int} {z u:Value} {f:Bool} (ho:o.op = .lookup T m kx true) (hz:Kq P T=some z) (hk:Jj P T=none) (hlt:e < 2097152) (hm:Zr P σ m = .mref d 0) (hd:σ d = .own true e [[.slice false 2 kvs]]) (h0:P.cellsOf e=0) (he:e=T+1048576)
  (hkx:Zr P σ kx = .val (.int .i64 k)) (hrow:Zbx [[.slice false 2 kvs]] k [.val z] = [[.val u,.val (.bool f)]]):JA P o σ (.tuple [.val u,.val (.bool f)]) [] [d]:=by
 intro c hc σ' tm w lim X hid hag hsim next Q hn
 subst hc
 have hg:∀ y∈o.op.operands,Zr c.P σ' y=Zr c.P σ y:=fun y hy=>ZA fun t ht=>hid t (by simp [Zt hy ht])
 rw [ho] at hg
 have hv:=J0 rfl hsim hm (hg m (by simp [Op.operands]))
 have hkv:=Z1 rfl hsim hkx (hg kx (by simp [Op.operands]))
 have hd':σ' d = .own true e [[.slice false 2 kvs]]:=by rw [hag d (by simp),hd]
 have hmv:=ZnY hsim hd' h0 (by rw [he,Nat.add_sub_cancel];exact hz) (by rw [he,Nat.add_sub_cancel];exact hk) hlt hv
 obtain ⟨u',f',g1,g2,g3⟩:=ZeG hsim hd' h0 he hz hk hlt k true
 rw [hrow] at g1
 simp only [List.cons.injEq,AV.val.injEq,Value.bool.injEq,and_true] at g1
 obtain ⟨rfl,rfl⟩:=g1
 rw [if_pos rfl] at g3
 refine Zq (v:=.tuple #[u,.bool f]) (w':=w) ?_ (hn _ w ?_)
 ·simp only [execOp,ho,hmv,hkv,g3,Sem.run_bind,Result.andThen_ok,Sem.run_pure]
 ·have hrel:ZP c.P w lim (KH X 0 JV) (upd σ' 0 .dead) 0 (.tuple [.val u,.val (.bool f)]) (.tuple #[u,.bool f]):=by
   refine ⟨[u,.bool f],rfl,rfl,fun i c u' hc hu=>?_⟩
   match i with
   | 0 => simp at hc hu; subst hc; subst hu; exact .val (Y5 g2)
   | 1 => simp at hc hu; subst hc; subst hu; exact .val rfl
   | i + 2 => simp at hc
  cases hdst:o.dst with
  | none => exact ⟨lim, X, hsim⟩
  | some d2 =>
   intro hd2 hmp
   refine ⟨lim,_,hsim.putRow JV (ZN.refl w lim (fun _=>False)) (fun _ hs=>hs.elim) hd2 (tm':=tm.setIfInBounds d2 (.tuple #[u,.bool f])) (by simp) (fun i hi=>ZL tm d2 i _ hi) (.inl (ZD hmp).1) (fun i q hi hr=>(hsim.noRefs (ZD hmp).none i q hi hr).elim) ?_
    (fun k b hk=>by simp [JV] at hk) (fun k k' b hk=>by simp [JV] at hk) rfl (fun e xs he=>by cases he) (fun k e xs b he _ hb=>by simp [JV] at hb)⟩
   rw [Jz tm d2 _ (by rw [hsim.size];exact hd2)]
   refine ⟨[u,.bool f],rfl,rfl,fun i c u' hc hu=>?_⟩
   match i with
   | 0 => simp at hc hu; subst hc; subst hu; exact .val (Y5 g2)
   | 1 => simp at hc hu; subst hc; subst hu; exact .val rfl
   | i + 2 => simp at hc
theorem Sim.mapFillV {c:Ctx} {σ:Nat→AV} {tm:Array Value} {w:World} {lim:Nat→Nat} {X:Nat→Nat→Option Nat} (h:Sim c σ tm w lim X) {d:Nat} {e T:TypeId} {kvs:List (List AV)} {z:Value} (k:Int) (hd:σ d = .own true e [[.slice false 2 kvs]]) (h0:c.P.cellsOf e=0) (he:e=T+1048576) (hz:Kq c.P T=some z) (hk:Jj c.P T=none) (hlt:e < 2097152) {u:Value} (hu:J2 u z=true) :
  ∃ w' X',(Instr.mapUpdate T (tm.getD d undef) (.int .i64 k) u).run c.P w = .ok () w'∧Sim c (upd σ d (.own true e (Zlg [[.slice false 2 kvs]] k [.val u]))) tm w' lim X':=by
 have hz':Kq c.P (e-1048576)=some z:=by rw [he,Nat.add_sub_cancel];exact hz
 have hk':Jj c.P (e-1048576)=none:=by rw [he,Nat.add_sub_cancel];exact hk
 obtain ⟨b,es,clock,hX,hvd,hb,hlb,hl,hs,hr⟩:=Zg4 h hd h0 hz' hk' hlt
 obtain ⟨kt,vt,i,hT,hkt,hi,hzz,hsc⟩:=Zc0 hz
 have hdn:d < c.nt:=Yl h (by rw [hd];exact fun h=>by cases h) (by rw [hd];rfl)
 obtain ⟨hkeys,hfind⟩:=ZbS hl hs (fun i en row h1 h2=>by obtain ⟨k,u,g1,g2,_⟩:=hr i en row h1 h2;exact ⟨k,_,g1,g2⟩) k
 have hm:Zm c.P e=true:=decide_eq_true (by rw [he];exact Nat.le_add_left _ _)
 have fill:∀ (es':Array MapEntry) (clock':Nat) (kvs':List (List AV)),es'.size=kvs'.length→Stamped es' clock'→
   (∀ (i:Nat) (en:MapEntry) (row:List AV),es'[i]? = some en→kvs'[i]? = some row→∃ (k:Int) (u:Value),row = [.val (.int .i64 k),.val u]∧en.key = .int .i64 k∧en.val=u∧J2 u z=true)→
   Sim c (upd σ d (.own true e [[.slice false 2 kvs']])) tm (YR w b (.map es' clock')) lim (KH X d (X d)):=by
  intro es' clock' kvs' g1 g2 g3
  have hstep:=Zap (es':=es') (clock':=clock') hb hlb
  refine h.putRow (S:=fun b'=>b'=b) (X d) hstep (fun b' hb'=>⟨0,by rw [hb'];exact hX⟩) hdn rfl (fun _ _=>rfl) (.inl fun cs hcs=>by rw [hd] at hcs;cases hcs) (fun i q hi hq=>⟨?_,rfl,fun b' hb'=>?_⟩) ?_
   (fun q b' hq=>⟨Nat.lt_of_lt_of_le (h.ours d q b' hq).1 hstep.size,(h.ours d q b' hq).2,fun i j hij hx=>hij (h.dist i j d q b' hx hq).1⟩) (fun q q' b' hq hq'=>(h.dist d q d q' b' hq hq').2) rfl (fun e1 xs1 he1=>?_) (fun k1 e1 xs1 b1 m1 m2 _=>?_)
  ·intro e1 xs1 hoa
   rw [hd] at hoa
   cases q with
   | zero => simp only [Zo, Option.some.injEq, Prod.mk.injEq] at hoa; obtain ⟨rfl, rfl⟩ := hoa; exact ⟨_, rfl, rfl⟩
   | succ q => cases hoa
  ·by_cases hbb:b'=b
   ·subst hbb
    refine ⟨fun arr t m=>?_,fun es1 clock1 _=>⟨es',clock',YE hb⟩⟩
    rw [hb] at m;cases m
   ·exact .of (JK hbb)
  ·show ZQ c.P _ lim true e _ _ (KH X d (X d) d 0)
   rw [Zp]
   exact .inr (.inr ⟨rfl,.inr (.inr ⟨hm,b,es',clock',kvs',z,⟨hz',hk',hlt⟩,hX,hvd,YE hb,hlb,rfl,g1,g2,g3⟩)⟩)
  ·injection he1 with _ h1 h2
   subst h1
   exact .mv (.inr (.inr (.inr hk')))
  ·cases k1 with
   | zero =>
    simp only [ZX,Option.some.injEq,Prod.mk.injEq] at m1
    rw [← m1.1,Yg hlt] at m2
    cases m2
   | succ k1 => simp [ZX] at m1
 rcases hfind with ⟨h1,h2,h3⟩ | ⟨j,en,row,h1,h2,h3,h4,h5,h6,h7⟩
 ·refine ⟨YR w b (.map (es.push ⟨.int .i64 k,u,clock⟩) (clock+1)),KH X d (X d),?_,?_⟩
  rotate_left
  ·have:=fill (es.push ⟨.int .i64 k,u,clock⟩) (clock+1) (kvs++[[.val (.int .i64 k),.val u]]) (by simp [hl]) (stamped_push hs h2) (fun i en row m1 m2=>by
    by_cases hij:i=es.size
    ·subst hij
     rw [Array.getElem?_push,if_pos rfl] at m1
     rw [List.getElem?_append_right (by omega)] at m2
     simp [hl] at m2
     cases m1
     exact ⟨k,u,m2.symm,rfl,rfl,hu⟩
    ·have hlt:i < es.size:=by
      have:=(Array.getElem?_eq_some_iff.1 m1).1
      simp at this
      omega
     rw [Array.getElem?_push,if_neg (by omega)] at m1
     rw [List.getElem?_append_left (by omega)] at m2
     exact hr i en row m1 m2)
   simp only [Zlg,JJ,List.headD_cons,ZjC h3]
   exact this
  ·rw [hvd]
   simp [Instr.mapUpdate,run_underlying hT,MapKept.run_getObj_map hb,MapKept.run_checkKey hkt (JP k),MapKept.run_findKey hkt h1,MapKept.run_setObj_map _ hb,Result.andThen,YR]
 ·have hj:es[j]? = some en:=h2
  have hjl:j < es.size:=(Array.getElem?_eq_some_iff.1 h2).1
  have hkeyf:∀ e',es[j]? = some e'→({ e' with key:=.int .i64 k,val:=u } : MapEntry).key=e'.key:=fun e' he'=>by rw [hj] at he';cases he';exact h4.symm
  refine ⟨YR w b (.map (es.modify j fun e'=>{ e' with key:=.int .i64 k,val:=u }) clock),KH X d (X d),?_,?_⟩
  rotate_left
  ·have hlen:=Zgq (cl:=.val u) h3 h5
   have:=fill (es.modify j fun e'=>{ e' with key:=.int .i64 k,val:=u }) clock (Kw kvs k (.val u)) (by rw [Array.size_modify,hl,hlen]) (stamped_modify hs _ _ (fun _ _=>rfl) (fun e' _ he'=>hkeyf e' he')) (fun i en' row' m1 m2=>by
    have m3:=Zet (cl:=.val u) h3 h5 h7 i row' m2
    by_cases hij:i=j
    ·subst hij
     rw [if_pos rfl] at m3
     rw [Array.getElem?_modify,if_pos rfl,hj] at m1
     simp only [Option.map_some,Option.some.injEq] at m1
     subst m1
     exact ⟨k,u,m3,rfl,rfl,hu⟩
    ·rw [if_neg hij] at m3
     rw [Array.getElem?_modify,if_neg (by omega)] at m1
     exact hr i en' row' m1 m3.1)
   simp only [Zlg,JJ,List.headD_cons]
   exact this
  ·rw [hvd]
   simp [Instr.mapUpdate,run_underlying hT,MapKept.run_getObj_map hb,MapKept.run_checkKey hkt (JP k),MapKept.run_findKey hkt h1,hj,h4,MapKept.run_keyThatStays (JP k),MapKept.run_setObj_map _ hb,Result.andThen,YR]
theorem Zfh {P:Program} {o:Oper} {σ:Nat→AV} {T e:TypeId} {m kx vx:Operand} {d:Nat} {kvs:List (List AV)} {k:Int} {z u:Value} (ho:o.op = .insert T m kx vx∨o.op = .mapUpdate T m kx vx) (hz:Kq P T=some z) (hk:Jj P T=none) (hlt:e < 2097152) (hm:Zr P σ m = .mref d 0) (hd:σ d = .own true e [[.slice false 2 kvs]]) (h0:P.cellsOf e=0) (he:e=T+1048576)
  (hkx:Zr P σ kx = .val (.int .i64 k)) (hvx:Zr P σ vx = .val u) (hu:J2 u z=true):JA P o σ .dead [(d,.own true e (Zlg [[.slice false 2 kvs]] k [.val u]))] []:=by
 intro c hc σ' tm w lim X hid hag hsim next Q hn
 subst hc
 have hg:∀ y∈o.op.operands,Zr c.P σ' y=Zr c.P σ y:=fun y hy=>ZA fun t ht=>hid t (by simp [Zt hy ht])
 have hgm:=hg m (by rcases ho with ho | ho<;>rw [ho]<;>simp [Op.operands])
 have hgk:=hg kx (by rcases ho with ho | ho<;>rw [ho]<;>simp [Op.operands])
 have hgv:=hg vx (by rcases ho with ho | ho<;>rw [ho]<;>simp [Op.operands])
 have hv:=J0 rfl hsim hm hgm
 have hkv:=Z1 rfl hsim hkx hgk
 have hvv:=Z1 rfl hsim hvx hgv
 have hd':σ' d = .own true e [[.slice false 2 kvs]]:=by rw [hag d (by simp),hd]
 have hmv:=ZnY hsim hd' h0 (by rw [he,Nat.add_sub_cancel];exact hz) (by rw [he,Nat.add_sub_cancel];exact hk) hlt hv
 obtain ⟨w',X',r1,r2⟩:=hsim.mapFillV k hd' h0 he hz hk hlt hu
 refine JQ (w':=w') ?_ (hn undef w' (Zy r2 rfl (k:=0) trivial))
 rcases ho with ho | ho<;>simp only [execOp,ho,hmv,hkv,hvv,r1,Sem.run_bind,Result.andThen_ok,Sem.run_pure]
end Go.AM
end

section
namespace Go.AM
def ZpZ (A:Nat→List V→Prop) (n:Nat) (B:List V→Prop):Nat→List V→Prop:=fun i vs=>if i=n then B vs else A i vs
def STree.wp (P:Program) (R:AV→List AV→Prop):STree→(Nat→List V→Prop)→(Nat→V)→Prop
 | .stuck _, _, _ => False
 | .branch b t e, A, ρ => (b.den ρ = true → t.wp P R A ρ) ∧ (b.den ρ = false → e.wp P R A ρ)
 | .req p t, A, ρ => p.den ρ ∧ t.wp P R A ρ
 | .elem l i sh n t, A, ρ => ∃ vs, 0 ≤ i.den ρ ∧ (l.den ρ)[(i.den ρ).toNat]? = some ((ZB sh n).map (SC.den (bind ρ n vs))) ∧ t.wp P R A (bind ρ n vs)
 | .nilq l n t, A, ρ => ∀ b : Bool, (b = true → l.den ρ = []) → t.wp P R A (bind ρ n [.b b])
 | .call f args res outs n _ t, A, ρ => ∃ vs, JM P f (args.map (SV.den ρ)) (res.den (bind ρ n vs)) (outs.map (SV.den (bind ρ n vs))) ∧ t.wp P R A (bind ρ n vs)
 | .loop lv init n t, A, ρ => ∃ (I : List V → Prop) (m : List V → Nat), I (init.map (VE.den ρ)) ∧
   ∀ vs,vs.length=init.length→I vs→t.wp P R (ZpZ A lv fun vs'=>I vs'∧m vs' < m vs) (bind Ze1 n vs)
 | .again lv vals, A, ρ => A lv (vals.map (VE.den ρ))
 | .ret res outs, _, ρ => R (res.den ρ) (outs.map (SV.den ρ))
def YM:List Sh→List Value→Prop
 | [], [] => True
 | .int k :: L, .int k' _ :: us => k = k' ∧ YM L us
 | .bool :: L, .bool _ :: us => YM L us
 | _, _ => False
def eqV:List Value→List Value→Bool
 | .int _ a :: us, .int _ b :: vs => (a == b) && eqV us vs
 | .bool a :: us, .bool b :: vs => (a == b) && eqV us vs
 | _, _ => true
def VC (P:Program) (plain:List TypeId):Prop:=
 ∀ T∈plain,P.eqGuardType P.depth T=false∧∀ L,YA P 8 T=some L→∀ (us vs:List Value),YM L us→YM L vs→∀ w,
  (Op.equalIn 10000 T (.agg us.toArray) (.agg vs.toArray)).run P w = .ok (eqV us vs) w
def EnvSound (P:Program) (E:Env):Prop:=VC P E.plain∧WI P E.ks∧Wv P E.srt
end Go.AM
end
